/-
  The document's Read and Number of a text, walked.
-/
import Derived.Test.YtmlaehjjeadbeaaDk
import Derived.Test.YtmlaehjjeadbeaaDg
import Derived.Deep.DeepCutAuto
namespace Go.Proofs.Ytmlaehjjeadbeaa
set_option linter.unusedVariables false
set_option linter.unusedSimpArgs false
open Go.RowKit

theorem keepf {W w1 : World} (hb : Below W.heap.size W w1) {p : Addr} (hl : p.block < W.heap.size) (h : W.frozen? p = false) : w1.frozen? p = false := by
  unfold World.frozen? at *
  rw [hb.block p.block hl]
  exact h
theorem keepfs {W : World} {p q : Addr} {u : Value} (h : W.frozen? p = false) : (W.setCell q u).frozen? p = false := by
  simpa [go_sem] using h
/-- what a cell holds now -/
def curV (w : World) (g i : Nat) : Value := (w.cell? ⟨g, i, none⟩).getD undef
theorem curV_of {w : World} {g i : Nat} {v : Value} (h : w.cell? ⟨g, i, none⟩ = some v) : w.cell? ⟨g, i, none⟩ = some (curV w g i) := by
  unfold curV; rw [h]; rfl
theorem curV_below {W w1 : World} (hb : Below W.heap.size W w1) {g i : Nat} {v : Value} (h : W.cell? ⟨g, i, none⟩ = some v) : w1.cell? ⟨g, i, none⟩ = some (curV w1 g i) := curV_of (keepc hb h)
theorem curV_set {W : World} {g i : Nat} {v : Value} (q : Addr) (u : Value) (h : W.cell? ⟨g, i, none⟩ = some v) : (W.setCell q u).cell? ⟨g, i, none⟩ = some (curV (W.setCell q u) g i) := by
  by_cases e : q = (⟨g, i, none⟩ : Addr)
  · subst e
    exact curV_of (World.cell?_setCell_same W _ u h)
  · exact curV_of ((World.cell?_setCell_other W q _ u e).trans h)
theorem radd_any (x y : Int) (hx : 0 ≤ x) (hy : 0 ≤ y) (h : x + y < 340282366920938463463374607431768211456) (w : World) : Calls Try.prog 21 #[.agg #[.int .u64 (x / 18446744073709551616), .int .u64 (x % 18446744073709551616)], .agg #[.int .u64 (y / 18446744073709551616), .int .u64 (y % 18446744073709551616)]] w fun r w' =>
      r = .returned (.tuple #[.agg #[.int .u64 ((x + y) / 18446744073709551616), .int .u64 ((x + y) % 18446744073709551616)], .bool true]) ∧ Below w.heap.size w w' := by
  have h1 : Wd (x / 18446744073709551616) ∧ Wd (x % 18446744073709551616) := by unfold Wd; omega
  have h2 : Wd (y / 18446744073709551616) ∧ Wd (y % 18446744073709551616) := by unfold Wd; omega
  have q : V (x / 18446744073709551616) (x % 18446744073709551616) + V (y / 18446744073709551616) (y % 18446744073709551616) < pw 16 := by rw [V_of, V_of, pw_16]; exact h
  have a := refadd_any _ _ _ _ h1.1 h1.2 h2.1 h2.2 w
  rw [addH_V q, addL_V q, addB_V, decide_eq_true q, V_of, V_of] at a
  exact a
/-- what the document's Read asks of the length -/
theorem rd_len {d : Nat → Int} {n : Nat} (h : rgt d n = true) :
    (n < 39 ∧ val d n < 340282366920938463463374607431768211456) ∨ (39 < n ∧ 340282366920938463463374607431768211456 ≤ val d n) ∨
    (n = 39 ∧ Op.bytesLess (strF d n).toList (strF (dtx 340282366920938463463374607431768211455 39) 39).toList = decide (val d n < 340282366920938463463374607431768211455) ∧
      ((strF d n).toList == (strF (dtx 340282366920938463463374607431768211455 39) 39).toList) = decide (val d n = 340282366920938463463374607431768211455)) := by
  have hg := (rgt_iff.1 h).2.1
  have hn := val_nn hg
  obtain ⟨a, b, c⟩ := rgt_DL h
  have e : ((val d n).toNat : Int) = val d n := Int.toNat_of_nonneg hn.1
  rcases Nat.lt_trichotomy n 39 with g | g | g
  · have p : (10 : Nat) ^ n ≤ 10 ^ 38 := Nat.pow_le_pow_right (by omega) (by omega)
    exact Or.inl ⟨g, by omega⟩
  · subst g
    refine Or.inr (Or.inr ⟨rfl, ?_, ?_⟩)
    · rw [strF_less (fun i hi => by have := hg i hi; omega) (fun i _ => dtx_ok _ _ i), val_less_iff hg (fun i _ => dtx_lo _ _ i), val_text dl_top.2.1]
      rfl
    · rw [strF_eq (fun i hi => by have := hg i hi; omega) (fun i _ => dtx_ok _ _ i)]
      congr 1
      rw [eq_iff_iff]
      constructor
      · rintro ⟨_, h2⟩
        rw [val_congr h2, val_text dl_top.2.1]
        rfl
      · intro h2
        exact ⟨rfl, val_inj hg (fun i _ => dtx_lo _ _ i) (by rw [h2, val_text dl_top.2.1]; rfl)⟩
  · have p : (10 : Nat) ^ 39 ≤ 10 ^ (n - 1) := Nat.pow_le_pow_right (by omega) (by omega)
    refine Or.inr (Or.inl ⟨g, ?_⟩)
    rcases c with c | c <;> omega

set_option maxHeartbeats 8000000 in
theorem rread_any (n : Nat) (d : Nat → Int) (hn : n ≤ maxLen) (hd : ∀ i, 0 ≤ d i ∧ d i < 256) (w : World) : Calls Try.prog 9 #[.string (strF d n)] w fun r w' =>
      r = .returned (.tuple #[.agg #[.int .u64 (drH d n), .int .u64 (drL d n)], .int .i64 (drC d n)]) ∧ Below w.heap.size w w' := by
  have HR := Lib.hid (fun w => form_any n d hn hd w)
  have HX := Lib.hid (fun w => rtext_any 340282366920938463463374607431768211455 (by omega) w)
  rw [DL_uniq (ndg_DL (N := 340282366920938463463374607431768211455) (by omega)) dl_top] at HX
  simp only [show ((340282366920938463463374607431768211455 : Nat) : Int) / 18446744073709551616 = 18446744073709551615 by omega, show ((340282366920938463463374607431768211455 : Nat) : Int) % 18446744073709551616 = 18446744073709551615 by omega] at HX
  have HTp := Lib.hid top_any
  unfold maxLen at hn
  have es : (strF d n).size = n := strF_size d n
  replace hd := Lib.hid hd
  have gR0 := Lib.hid (Blk.new w 24 #[.int .u64 0, .int .u64 0])
  have hb0 := Lib.hid (bel_alloc (Below.refl w.heap.size w) (.cells #[.int .u64 0, .int .u64 0] 24))
  cases hr : rgt d n with
  | false =>
    obtain ⟨e1, e2, e3⟩ := rd_form hr
    rw [e1, e2, e3]
    rw [hr] at HR
    go_enter Try.func9, Try.ntmps9
    go_wp2_with fail
    refine (HR.out _).mono ?_
    rintro r w1 ⟨rfl, hb1⟩
    have gR := gR0.out.kept hb1
    have hb2 := bel_eld hb0.out hb1
    have hb3 : Below w.heap.size w ((w1.setCell ⟨w.heap.size, 0, none⟩ (.int .u64 0)).setCell ⟨w.heap.size, 1, none⟩ (.int .u64 0)) := by (repeat (first | exact Below.refl _ _ | assumption | refine below_drewN ?_ _ | refine bel_grow ?_ _ | refine Below.drew ?_ | refine bel_alloc ?_ _ | refine bel_set ?_ (by first | exact Nat.le_refl _ | (simp; done) | (simp; omega) | omega) _ | refine bel_trans ?_ (by assumption)))
    have gR2 := gR.two (u := .int .u64 0) (v := .int .u64 0)
    have b0 := (gR).cell 0
    have b1 := (gR).cell 1
    have bf0 := (gR).frozen 0
    have bf1 := (gR).frozen 1
    have bl := (gR).lt
    simp at b0 b1
    replace hb3 := Lib.hid hb3
    replace gR2 := Lib.hid gR2
    clear hb1 hb2 gR
    go_wp2_with fail
    generalize (w1.setCell ⟨w.heap.size, 0, none⟩ (.int .u64 0)).setCell ⟨w.heap.size, 1, none⟩ (.int .u64 0) = w4 at *
    have r0 := (gR2.out).cell 0
    have r1 := (gR2.out).cell 1
    have rf0 := (gR2.out).frozen 0
    have rf1 := (gR2.out).frozen 1
    have rl := (gR2.out).lt
    simp at r0 r1
    refine bodyPost_ret (v := .tuple #[.agg #[.int .u64 0, .int .u64 0], .int .i64 2]) (by simp [results, Try.results9, go_sem, r0, r1, rl]) rfl ⟨rfl, hb3.out⟩
  | true =>
    have hdg := Lib.hid (rgt_iff.1 hr).2.1
    rw [hr] at HR
    have hlen := rd_len hr
    have ez : (strF (dtx 340282366920938463463374607431768211455 39) 39).size = 39 := strF_size _ _
    generalize strF (dtx 340282366920938463463374607431768211455 39) 39 = top at *
    by_cases hov : 340282366920938463463374607431768211456 ≤ val d n
    · obtain ⟨e1, e2, e3⟩ := rd_over hr (by omega)
      rw [e1, e2, e3]
      have hcs : 39 < n ∨ (n = 39 ∧ Op.bytesLess (strF d n).toList top.toList = false ∧ ((strF d n).toList == top.toList) = false) := by
        rcases hlen with h | h | ⟨h, h1, h2⟩
        · omega
        · exact Or.inl h.1
        · rw [decide_eq_false (by omega)] at h1 h2
          exact Or.inr ⟨h, h1, h2⟩
      clear hlen hov e1 e2 e3
      rcases hcs with hc | ⟨hc, hc3, hc4⟩
      all_goals (
        first
          | (have k1 : decide ((39 : Int) < n) = true := decide_eq_true (by omega))
          | skip
        try (
          have k2 : decide ((39 : Int) < n) = false := decide_eq_false (by omega)
          have k3 : ((n : Int) == 39) = true := by rw [beq_iff_eq]; omega
          replace hc := Lib.hid hc)
        go_enter Try.func9, Try.ntmps9
        go_wp2_with fail
        refine (HR.out _).mono ?_
        rintro r w1 ⟨rfl, hb1⟩
        go_wp2_with fail
        refine (HTp.out _).mono ?_
        rintro r w2 ⟨rfl, hb2⟩
        go_wp2_with fail
        refine (HX.out _).mono ?_
        rintro r w3 ⟨rfl, hb3⟩
        have gR := ((gR0.out.kept hb1).kept hb2).kept hb3
        have hb4 := bel_eld (bel_eld (bel_eld hb0.out hb1) hb2) hb3
        have hb5 : Below w.heap.size w ((w3.setCell ⟨w.heap.size, 0, none⟩ (.int .u64 0)).setCell ⟨w.heap.size, 1, none⟩ (.int .u64 0)) := by (repeat (first | exact Below.refl _ _ | assumption | refine below_drewN ?_ _ | refine bel_grow ?_ _ | refine Below.drew ?_ | refine bel_alloc ?_ _ | refine bel_set ?_ (by first | exact Nat.le_refl _ | (simp; done) | (simp; omega) | omega) _ | refine bel_trans ?_ (by assumption)))
        have gR2 := gR.two (u := .int .u64 0) (v := .int .u64 0)
        have b0 := (gR).cell 0
        have b1 := (gR).cell 1
        have bf0 := (gR).frozen 0
        have bf1 := (gR).frozen 1
        have bl := (gR).lt
        simp at b0 b1
        replace hb5 := Lib.hid hb5
        replace gR2 := Lib.hid gR2
        clear hb1 hb2 hb3 hb4 gR
        go_wp2_with fail
        generalize (w3.setCell ⟨w.heap.size, 0, none⟩ (.int .u64 0)).setCell ⟨w.heap.size, 1, none⟩ (.int .u64 0) = w4 at *
        have r0 := (gR2.out).cell 0
        have r1 := (gR2.out).cell 1
        have rf0 := (gR2.out).frozen 0
        have rf1 := (gR2.out).frozen 1
        have rl := (gR2.out).lt
        simp at r0 r1
        refine bodyPost_ret (v := .tuple #[.agg #[.int .u64 0, .int .u64 0], .int .i64 9]) (by simp [results, Try.results9, go_sem, r0, r1, rl]) rfl ⟨rfl, hb5.out⟩)
    · have hv2 : val d n < 340282366920938463463374607431768211456 := by omega
      obtain ⟨e1, e2, e3⟩ := rd_ok hr hv2
      have hcs : n < 39 ∨ (n = 39 ∧ Op.bytesLess (strF d n).toList top.toList = true ∧ ((strF d n).toList == top.toList) = false) ∨ (n = 39 ∧ Op.bytesLess (strF d n).toList top.toList = false ∧ ((strF d n).toList == top.toList) = true) := by
        rcases hlen with h | h | ⟨h, h1, h2⟩
        · exact Or.inl h.1
        · omega
        · by_cases q : val d n < 340282366920938463463374607431768211455
          · rw [decide_eq_true q] at h1
            rw [decide_eq_false (by omega)] at h2
            exact Or.inr (Or.inl ⟨h, h1, h2⟩)
          · rw [decide_eq_false q] at h1
            rw [decide_eq_true (by omega)] at h2
            exact Or.inr (Or.inr ⟨h, h1, h2⟩)
      replace e1 := Lib.hid e1
      replace e2 := Lib.hid e2
      replace e3 := Lib.hid e3
      replace hv2 := Lib.hid hv2
      clear hlen hov
      have k2 : decide ((39 : Int) < n) = false := decide_eq_false (by omega)
      replace hcs := Lib.hid hcs
      go_enter Try.func9, Try.ntmps9
      go_wp2_with fail
      refine (HR.out _).mono ?_
      rintro r w1 ⟨rfl, hb1⟩
      go_wp2_with fail
      refine (HTp.out _).mono ?_
      rintro r w2 ⟨rfl, hb2⟩
      go_wp2_with fail
      refine (HX.out _).mono ?_
      rintro r w3 ⟨rfl, hb3⟩
      have gR := ((gR0.out.kept hb1).kept hb2).kept hb3
      have hb4 := bel_eld (bel_eld (bel_eld hb0.out hb1) hb2) hb3
      have hs3 : w.heap.size < w3.heap.size := gR.lt
      replace gR := Lib.hid gR
      replace hb4 := Lib.hid hb4
      clear hb1 hb2 hb3 gR0 hb0
      go_upto_region 4 with fail
      go_cut [31] (fun s wx => s = .bool false ∧ w3 = wx)
      case first =>
        rcases hcs.out with hc | ⟨hc, hc3, hc4⟩ | ⟨hc, hc3, hc4⟩
        all_goals (
          first
            | (have k3 : ((n : Int) == 39) = true := by rw [beq_iff_eq]; omega)
            | (have k3 : ((n : Int) == 39) = false := by rw [beq_eq_false_iff_ne]; omega)
          replace hc := Lib.hid hc
          clear hcs
          go_wp2_with fail
          go_meet
          exact ⟨rfl, rfl⟩)
      case rest =>
      obtain ⟨rfl, rfl⟩ := hcut
      clear k2 hcs
      go_wp2_with fail
      go_loopw [6] (fun i wr => ∃ k : Nat, k ≤ n ∧ i = .int .i64 k ∧ Hid (Below w.heap.size w wr) ∧ Hid (Blk wr w.heap.size 24 #[.int .u64 0, .int .u64 0]) ∧ Hid (Blk wr w3.heap.size 24 #[.int .u64 (val d k / 18446744073709551616), .int .u64 (val d k % 18446744073709551616)])) (fun i _ => n - (intOf i).toNat)
      case atStart =>
        refine ⟨0, by omega, rfl, ?_, ?_, ?_⟩
        · have t := hb4.out
          show Below _ _ _
          (repeat (first | exact Below.refl _ _ | assumption | refine below_drewN ?_ _ | refine bel_grow ?_ _ | refine Below.drew ?_ | refine bel_alloc ?_ _ | refine bel_set ?_ (by first | exact Nat.le_refl _ | (simp; done) | (simp; omega) | omega) _ | refine bel_trans ?_ (by assumption)))
        · exact Lib.hid (gR.out.alloc _)
        · exact Lib.hid (Blk.new _ _ _)
      case round =>
        clear gR hb4
        obtain ⟨k, hk, rfl, hb, gR, gA⟩ := hrel
        by_cases hin : k < n
        · have hp := (val_nn (k := k) (fun i hi => hdg.out i (by omega))).1
          have hm := val_mono hdg.out (show k + 1 ≤ n by omega)
          have a1 := hdg.out k hin
          have hval : val d (k + 1) = val d k * 10 + (d k - 48) := rfl
          have hq3 := gA.out.lt
          have hsz : k < (strF d n).size := by rw [es]; exact hin
          have q1 := strF_at hsz (hd.out k)
          have hv3 := hv2.out
          replace q1 := Lib.hid q1
          have gR2 := Lib.hid (gR.out.alloc (.cells #[.int .u64 0, .int .u64 0] 24))
          have gA2 := Lib.hid (gA.out.alloc (.cells #[.int .u64 0, .int .u64 0] 24))
          have gQ2 := Lib.hid (Blk.new wr 24 #[.int .u64 0, .int .u64 0])
          have hb5 := Lib.hid (bel_alloc hb.out (.cells #[.int .u64 0, .int .u64 0] 24))
          have HA := Lib.hid (fun (m : Nat) (hm : m < 10) (w : World) => radd_any ((m : Int) * val d k) (val d k) (Int.mul_nonneg (by omega) hp) hp (by have := Int.mul_le_mul_of_nonneg_right (show (m : Int) ≤ 9 by omega) hp; omega) w)
          have HB := Lib.hid (fun (w : World) => radd_any (10 * val d k) (d k - 48) (by omega) (by omega) (by omega) w)
          rw [show (d k - 48) / 18446744073709551616 = 0 by omega, show (d k - 48) % 18446744073709551616 = d k - 48 by omega, show 10 * val d k + (d k - 48) = val d (k + 1) by omega] at HB
          have hw : IntKind.u8.wrap (d k - 48) = d k - 48 := by simp [IntKind.wrap, IntKind.bits, IntKind.signed]; omega
          have hw4 : IntKind.u64.wrap (d k - 48) = d k - 48 := by simp [IntKind.wrap, IntKind.bits, IntKind.signed]; omega
          have hw2 : (d k - 48) % 256 = d k - 48 := by omega
          have hw3 : (d k - 48) % 18446744073709551616 = d k - 48 := by omega
          clear hval hm
          generalize val d k = p at *
          replace hp := Lib.hid hp
          replace hv3 := Lib.hid hv3
          clear hb gR gA
          go_wp2_with fail
          generalize hqq : wr.heap.size = q at *
          replace hqq := Lib.hid hqq
          go_loopw [8] (fun i wr2 => ∃ m : Nat, m ≤ 10 ∧ i = .int .i64 m ∧ Hid (Below w.heap.size w wr2) ∧ Hid (Blk wr2 w.heap.size 24 #[.int .u64 0, .int .u64 0]) ∧ Hid (Blk wr2 w3.heap.size 24 #[.int .u64 (p / 18446744073709551616), .int .u64 (p % 18446744073709551616)]) ∧ Hid (Blk wr2 q 24 #[.int .u64 ((m : Int) * p / 18446744073709551616), .int .u64 ((m : Int) * p % 18446744073709551616)])) (fun i _ => 10 - (intOf i).toNat)
          case atStart =>
            refine ⟨0, by omega, rfl, hb5, gR2, gA2, ?_⟩
            simpa using gQ2
          case round =>
            clear gR2 gA2 gQ2 hb5
            obtain ⟨m, hm, rfl, hb, gR, gA, gQ⟩ := hrel
            by_cases hm10 : m < 10
            · have HA2 := Lib.hid (HA.out m hm10)
              rw [show (m : Int) * p + p = ((m + 1 : Nat) : Int) * p by rw [Int.natCast_add, Int.add_mul]; simp] at HA2
              have p0 := (gA.out).cell 0
              have p1 := (gA.out).cell 1
              have pf0 := (gA.out).frozen 0
              have pf1 := (gA.out).frozen 1
              have pl := (gA.out).lt
              have s0 := (gQ.out).cell 0
              have s1 := (gQ.out).cell 1
              have sf0 := (gQ.out).frozen 0
              have sf1 := (gQ.out).frozen 1
              have sl := (gQ.out).lt
              simp at p0 p1 s0 s1
              go_wp2_with fail
              refine (HA2.out _).mono ?_
              rintro r w4 ⟨rfl, hb6⟩
              have gR3 := gR.out.kept hb6
              have gA3 := gA.out.kept hb6
              have gQ3 := gQ.out.kept hb6
              have hb7 := bel_eld hb.out hb6
              clear p0 p1 pf0 pf1 pl s0 s1 sf0 sf1 sl hb gR gA gQ hb6 HA2
              have s0 := (gQ3).cell 0
              have s1 := (gQ3).cell 1
              have sf0 := (gQ3).frozen 0
              have sf1 := (gQ3).frozen 1
              have sl := (gQ3).lt
              simp at s0 s1
              replace gR3 := Lib.hid gR3
              replace gA3 := Lib.hid gA3
              replace gQ3 := Lib.hid gQ3
              replace hb7 := Lib.hid hb7
              generalize hz : ((m + 1 : Nat) : Int) * p = z at *
              replace hz := Lib.hid hz
              go_wp2_with fail
              go_roundw
              case rel =>
                refine ⟨m + 1, by omega, by go_num, ?_, ?_, ?_, ?_⟩
                · have t := hb7.out
                  show Below _ _ _
                  (repeat (first | exact Below.refl _ _ | assumption | refine below_drewN ?_ _ | refine bel_grow ?_ _ | refine Below.drew ?_ | refine bel_alloc ?_ _ | refine bel_set ?_ (by first | exact Nat.le_refl _ | (simp; done) | (simp; omega) | omega) _ | refine bel_trans ?_ (by assumption)))
                · exact Lib.hid ((gR3.out.far (by simp; omega) _).far (by simp; omega) _)
                · exact Lib.hid ((gA3.out.far (by simp; omega) _).far (by simp; omega) _)
                · rw [hz.out]
                  exact Lib.hid gQ3.out.two
              case measure => simp [intOf]; omega
            · obtain rfl : m = 10 := by omega
              simp only [show ((10 : Nat) : Int) = 10 from rfl] at gQ
              have s0 := (gQ.out).cell 0
              have s1 := (gQ.out).cell 1
              have sf0 := (gQ.out).frozen 0
              have sf1 := (gQ.out).frozen 1
              have sl := (gQ.out).lt
              simp at s0 s1
              have q2 := q1.out
              have eK := Lib.hid (show ((k + 1 : Nat) : Int) = (k : Int) + 1 by omega)
              have pf0 := gA.out.frozen 0
              have pf1 := gA.out.frozen 1
              have pl := gA.out.lt
              have pl2 : w3.heap.size < wr.drew.heap.size := pl
              have pc0 := curV_of (gA.out.cell 0)
              have pc1 := curV_of (gA.out.cell 1)
              go_wp2_with fail
              go_region_held3 (fun w' => w'.cell? ⟨q, 0, none⟩ = some (.int .u64 (10 * p / 18446744073709551616)) ∧ w'.cell? ⟨q, 1, none⟩ = some (.int .u64 (10 * p % 18446744073709551616)) ∧ w'.frozen? ⟨w3.heap.size, 0, none⟩ = false ∧ w'.frozen? ⟨w3.heap.size, 1, none⟩ = false ∧ w'.cell? ⟨w3.heap.size, 0, none⟩ = some (curV w' w3.heap.size 0) ∧ w'.cell? ⟨w3.heap.size, 1, none⟩ = some (curV w' w3.heap.size 1))
                (first | ((try go_split_ands); (repeat' with_reducible apply And.intro) <;> (first | with_reducible assumption | ((with_reducible refine keepc (grow_below _ _) ?_); assumption) | ((with_reducible refine keepf (grow_below _ _) ?_ ?_) <;> first | exact pl | assumption) | ((with_reducible apply curV_below (grow_below _ _)); first | exact pc0 | exact pc1 | assumption) | ((repeat (with_reducible refine keeps (by dsimp only; omega) ?_)); with_reducible assumption) | ((repeat (with_reducible refine keepfs ?_)); with_reducible assumption) | with_reducible exact curV_set _ _ (curV_set _ _ (by with_reducible assumption)) | with_reducible exact curV_set _ _ (by with_reducible assumption) | with_reducible exact curV_of (by with_reducible assumption) | assumption | (simp [go_sem]; done))))
                ((first | (go_at_call 21; (with_reducible refine (gro (HB.out _)).mono ?_); rintro e w5 ⟨rfl, d1, rfl⟩)))
              have gA3 := Lib.hid (Blk.two (u := .int .u64 (val d (k + 1) / 18446744073709551616)) (v := .int .u64 (val d (k + 1) % 18446744073709551616)) (gA.out.drew.grow d1))
              have gR3 := Lib.hid (((gR.out.drew.grow d1).far (p := ⟨w3.heap.size, 0, none⟩) (by simp; omega) (.int .u64 (val d (k + 1) / 18446744073709551616))).far (p := ⟨w3.heap.size, 1, none⟩) (by simp; omega) (.int .u64 (val d (k + 1) % 18446744073709551616)))
              have hb7 : Below w.heap.size w (((Grow wr.drew d1).setCell ⟨w3.heap.size, 0, none⟩ (.int .u64 (val d (k + 1) / 18446744073709551616))).setCell ⟨w3.heap.size, 1, none⟩ (.int .u64 (val d (k + 1) % 18446744073709551616))) := by
                have t := hb.out
                (repeat (first | exact Below.refl _ _ | assumption | refine below_drewN ?_ _ | refine bel_grow ?_ _ | refine Below.drew ?_ | refine bel_alloc ?_ _ | refine bel_set ?_ (by first | exact Nat.le_refl _ | (simp; done) | (simp; omega) | omega) _ | refine bel_trans ?_ (by assumption)))
              replace hb7 := Lib.hid hb7
              go_wp2_with fail
              go_roundw
              case rel => exact ⟨k + 1, by omega, by go_num, hb7, gR3, gA3⟩
              case measure => simp [intOf]; omega
        · obtain rfl : k = n := by omega
          have pl := gA.out.lt
          have o0 := (gA.out).cell 0
          have o1 := (gA.out).cell 1
          have of0 := (gA.out).frozen 0
          have of1 := (gA.out).frozen 1
          have ol := (gA.out).lt
          have r0 := (gR.out).cell 0
          have r1 := (gR.out).cell 1
          have rf0 := (gR.out).frozen 0
          have rf1 := (gR.out).frozen 1
          have rl := (gR.out).lt
          simp at o0 o1 r0 r1
          have gR2 := Lib.hid (gR.out.two (u := .int .u64 (val d k / 18446744073709551616)) (v := .int .u64 (val d k % 18446744073709551616)))
          generalize val d k / 18446744073709551616 = vh at *
          generalize val d k % 18446744073709551616 = vl at *
          have hb3 : Below w.heap.size w ((wr.setCell ⟨w.heap.size, 0, none⟩ (.int .u64 vh)).setCell ⟨w.heap.size, 1, none⟩ (.int .u64 vl)) := by
            have t := hb.out
            (repeat (first | exact Below.refl _ _ | assumption | refine below_drewN ?_ _ | refine bel_grow ?_ _ | refine Below.drew ?_ | refine bel_alloc ?_ _ | refine bel_set ?_ (by first | exact Nat.le_refl _ | (simp; done) | (simp; omega) | omega) _ | refine bel_trans ?_ (by assumption)))
          replace hb3 := Lib.hid hb3
          go_wp2_with fail
          generalize (wr.setCell ⟨w.heap.size, 0, none⟩ (.int .u64 vh)).setCell ⟨w.heap.size, 1, none⟩ (.int .u64 vl) = w4 at *
          clear r0 r1 rf0 rf1 rl
          have r0 := (gR2.out).cell 0
          have r1 := (gR2.out).cell 1
          have rf0 := (gR2.out).frozen 0
          have rf1 := (gR2.out).frozen 1
          have rl := (gR2.out).lt
          simp at r0 r1
          refine bodyPost_ret (v := .tuple #[.agg #[.int .u64 vh, .int .u64 vl], .int .i64 0]) (by simp [results, Try.results9, go_sem, r0, r1, rl]) rfl ⟨by rw [e1.out, e2.out, e3.out], hb3.out⟩
end Go.Proofs.Ytmlaehjjeadbeaa
