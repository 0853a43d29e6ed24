/-
  digits.tenfold and digits.right, walked.
-/
import Derived.Test.YtmlaehjjeadbeaaDoorDa
import Derived.Test.YtmlaehjjeadbeaaDoorWideX
import Derived.Test.YtmlaehjjeadbeaaDoorMul
import Derived.Test.YtmlaehjjeadbeaaDoorWideV
import Derived.Test.YtmlaehjjeadbeaaDoorRefA
import Derived.Test.YtmlaehjjeadbeaaDoorEq
namespace Go.Proofs.YtmlaehjjeadbeaaDoor
set_option linter.unusedVariables false
set_option linter.unusedSimpArgs false
open Go.RowKit

/-- ten times V and a digit more -/
def tenV (h l x : Int) : Int := V h l * 10 + (x - 48)
set_option maxHeartbeats 4000000 in
theorem tenfold_any (h l x : Int) (hh : Wd h) (hl : Wd l) (hx : 48 ≤ x ∧ x < 58) (w : World) : Calls Tryd.prog 16 #[.agg #[.int .u64 h, .int .u64 l], .int .u8 x] w fun r w' =>
      ∃ a b, r = .returned (.tuple #[.agg #[.int .u64 a, .int .u64 b], .bool (decide (tenV h l x < 340282366920938463463374607431768211456))]) ∧ ((tenV h l x < 340282366920938463463374607431768211456 → a = tenV h l x / 18446744073709551616 ∧ b = tenV h l x % 18446744073709551616) ∧ (¬ tenV h l x < 340282366920938463463374607431768211456 → a = 0 ∧ b = 0)) ∧ Below w.heap.size w w' := by
  obtain ⟨H, rfl⟩ := Int.eq_ofNat_of_zero_le hh.1
  obtain ⟨L, rfl⟩ := Int.eq_ofNat_of_zero_le hl.1
  unfold Wd at hh hl
  have e0 : tenV (H : Int) (L : Int) x = ((H : Int) * 10 + (L : Int) * 10 / 18446744073709551616) * 18446744073709551616 + (L : Int) * 10 % 18446744073709551616 + (x - 48) := by unfold tenV V; omega
  have M1 := Lib.hid (fun w => mul64_any L 10 (by omega) (by omega) w)
  have M2 := Lib.hid (fun w => mul64_any H 10 (by omega) (by omega) w)
  simp only [show ((10 : Nat) : Int) = 10 from rfl] at M1 M2
  have HO := Lib.hid (fun w => of_any (x - 48) w)
  have hw : IntKind.u8.wrap (x - 48) = x - 48 := by simp [IntKind.wrap, IntKind.bits, IntKind.signed]; omega
  have hm : (x - 48) % 256 = x - 48 := by omega
  have hm2 : (x - 48) % 18446744073709551616 = x - 48 := by omega
  have ao := fun (p q : Int) (hp : 0 ≤ p) (hq : 0 ≤ q) (w : World) => add64_0 p q hp hq w
  generalize hA : ((H * 10 / 18446744073709551616 : Nat) : Int) = ho at *
  generalize hB : ((H * 10 % 18446744073709551616 : Nat) : Int) = tp at *
  generalize hC : ((L * 10 / 18446744073709551616 : Nat) : Int) = hi at *
  generalize hD : ((L * 10 % 18446744073709551616 : Nat) : Int) = lo at *
  have p1 : 0 ≤ tp ∧ tp < 18446744073709551616 := by omega
  have p2 : 0 ≤ hi ∧ hi < 10 := by omega
  have p3 : 0 ≤ lo ∧ lo < 18446744073709551616 := by omega
  have p4 : 0 ≤ ho ∧ ho < 10 := by omega
  have e1 : tenV (H : Int) (L : Int) x = (ho * 18446744073709551616 + tp + hi) * 18446744073709551616 + lo + (x - 48) := by omega
  clear e0 hA hB hC hD
  generalize tenV (H : Int) (L : Int) x = T at *
  by_cases q1 : ho = 0
  · subst q1
    by_cases q2 : (tp + hi) / 18446744073709551616 = 0
    · have HA := Lib.hid (fun w => add_any (tp + hi) lo 0 (x - 48) (by unfold Wd; omega) (by unfold Wd; omega) (by unfold Wd; omega) (by unfold Wd; omega) w)
      have r1 : (tp + hi) % 18446744073709551616 = tp + hi := by omega
      have hb : addB (tp + hi) lo 0 (x - 48) = decide (T < 340282366920938463463374607431768211456) := by unfold addB; congr 1; rw [e1, eq_iff_iff]; omega
      have ha : (T < 340282366920938463463374607431768211456 → addH (tp + hi) lo 0 (x - 48) = T / 18446744073709551616 ∧ addL (tp + hi) lo 0 (x - 48) = T % 18446744073709551616) ∧ (¬ T < 340282366920938463463374607431768211456 → addH (tp + hi) lo 0 (x - 48) = 0 ∧ addL (tp + hi) lo 0 (x - 48) = 0) := by
        constructor
        · intro h
          unfold addH addL
          rw [hb, decide_eq_true h]
          simp only [if_true]
          omega
        · intro h
          unfold addH addL
          rw [hb, decide_eq_false h]
          exact ⟨rfl, rfl⟩
      rw [hb] at HA
      generalize addH (tp + hi) lo 0 (x - 48) = a at *
      generalize addL (tp + hi) lo 0 (x - 48) = b at *
      replace ha := Lib.hid ha
      clear hb
      have r2 : (tp + hi) / 18446744073709551616 = 0 := q2
      have c0 := Lib.hid (fun w => ao tp hi p1.1 p2.1 w)
      rw [r1, r2] at c0
      clear ao e1 q2
      go_enter Tryd.func16, Tryd.ntmps16
      go_wp2_with fail
      refine (M1.out _).mono ?_
      rintro r w1 ⟨rfl, rfl⟩
      go_wp2_with fail
      refine (M2.out _).mono ?_
      rintro r w1 ⟨rfl, rfl⟩
      go_wp2_with (first | simp only [c0.out] | fail)
      refine (HO.out _).mono ?_
      rintro r w2 ⟨rfl, hb2⟩
      go_wp2_with fail
      refine (HA.out _).mono ?_
      rintro r w3 ⟨rfl, hb3⟩
      have hb4 : Below w.heap.size w w3 := by (repeat (first | exact Below.refl _ _ | assumption | refine below_drewN ?_ _ | refine bel_grow ?_ _ | refine Below.drew ?_ | refine bel_alloc ?_ _ | refine bel_set ?_ (by first | exact Nat.le_refl _ | (simp; done) | (simp; omega) | omega) _ | refine bel_trans ?_ (by assumption)))
      have gB : Blk w3 (w.heap.size + 1) 24 #[.int .u64 0, .int .u64 0] := by
        have g1 := ((Blk.new (w.alloc (.cells #[.int .u64 H, .int .u64 L] 24)) 24 #[.int .u64 0, .int .u64 0]).kept hb2).kept hb3
        simpa using g1
      have b0 := (gB).cell 0
      have b1 := (gB).cell 1
      have bf0 := (gB).frozen 0
      have bf1 := (gB).frozen 1
      have bl := (gB).lt
      have gB2 := gB.two (u := .int .u64 a) (v := .int .u64 b)
      have hb5 : Below w.heap.size w ((w3.setCell ⟨w.heap.size + 1, 0, none⟩ (.int .u64 a)).setCell ⟨w.heap.size + 1, 1, none⟩ (.int .u64 b)) := by (repeat (first | exact Below.refl _ _ | assumption | refine below_drewN ?_ _ | refine bel_grow ?_ _ | refine Below.drew ?_ | refine bel_alloc ?_ _ | refine bel_set ?_ (by first | exact Nat.le_refl _ | (simp; done) | (simp; omega) | omega) _ | refine bel_trans ?_ (by assumption)))
      replace hb5 := Lib.hid hb5
      replace gB2 := Lib.hid gB2
      clear hb2 hb3 hb4
      simp at b0 b1
      go_wp2_with fail
      generalize (w3.setCell ⟨w.heap.size + 1, 0, none⟩ (.int .u64 a)).setCell ⟨w.heap.size + 1, 1, none⟩ (.int .u64 b) = w4 at *
      have r0 := (gB2.out).cell 0
      have r1 := (gB2.out).cell 1
      have rf0 := (gB2.out).frozen 0
      have rf1 := (gB2.out).frozen 1
      have rl := (gB2.out).lt
      simp at r0 r1
      refine bodyPost_ret (v := .tuple #[.agg #[.int .u64 a, .int .u64 b], .bool (decide (T < 340282366920938463463374607431768211456))]) (by simp [results, Tryd.results16, go_sem, r0, r1, rl]) rfl ⟨a, b, rfl, ha.out, hb5.out⟩
    · have r2 : decide (T < 340282366920938463463374607431768211456) = false := by rw [decide_eq_false_iff_not]; omega
      rw [r2]
      have r3 : ¬ T < 340282366920938463463374607431768211456 := by simpa using r2
      have c0 := Lib.hid (fun w => ao tp hi p1.1 p2.1 w)
      have r4 : ((tp + hi) / 18446744073709551616 != 0) = true := by rw [bne_iff_ne]; exact q2
      replace r3 := Lib.hid r3
      clear ao e1 q2 r2
      go_enter Tryd.func16, Tryd.ntmps16
      go_wp2_with fail
      refine (M1.out _).mono ?_
      rintro r w1 ⟨rfl, rfl⟩
      go_wp2_with fail
      refine (M2.out _).mono ?_
      rintro r w1 ⟨rfl, rfl⟩
      go_wp2_with (first | simp only [c0.out] | fail)
      refine bodyPost_ret (v := .tuple #[.agg #[.int .u64 0, .int .u64 0], .bool false]) (by simp [results, Tryd.results16, go_sem]) rfl ⟨0, 0, rfl, ⟨fun h => absurd (show T < 340282366920938463463374607431768211456 from h) (Int.not_lt.2 r3.out), fun _ => ⟨rfl, rfl⟩⟩, ?_⟩
      (repeat (first | exact Below.refl _ _ | assumption | refine below_drewN ?_ _ | refine bel_grow ?_ _ | refine Below.drew ?_ | refine bel_alloc ?_ _ | refine bel_set ?_ (by first | exact Nat.le_refl _ | (simp; done) | (simp; omega) | omega) _ | refine bel_trans ?_ (by assumption)))
  · have r2 : decide (T < 340282366920938463463374607431768211456) = false := by rw [decide_eq_false_iff_not]; omega
    rw [r2]
    have r3 : ¬ T < 340282366920938463463374607431768211456 := by simpa using r2
    have c0 := Lib.hid (fun w => ao tp hi p1.1 p2.1 w)
    have r4 : (ho != 0) = true := by rw [bne_iff_ne]; exact q1
    replace r3 := Lib.hid r3
    clear ao e1 r2
    go_enter Tryd.func16, Tryd.ntmps16
    go_wp2_with fail
    refine (M1.out _).mono ?_
    rintro r w1 ⟨rfl, rfl⟩
    go_wp2_with fail
    refine (M2.out _).mono ?_
    rintro r w1 ⟨rfl, rfl⟩
    go_wp2_with (first | simp only [c0.out] | fail)
    refine bodyPost_ret (v := .tuple #[.agg #[.int .u64 0, .int .u64 0], .bool false]) (by simp [results, Tryd.results16, go_sem]) rfl ⟨0, 0, rfl, ⟨fun h => absurd (show T < 340282366920938463463374607431768211456 from h) (Int.not_lt.2 r3.out), fun _ => ⟨rfl, rfl⟩⟩, ?_⟩
    (repeat (first | exact Below.refl _ _ | assumption | refine below_drewN ?_ _ | refine bel_grow ?_ _ | refine Below.drew ?_ | refine bel_alloc ?_ _ | refine bel_set ?_ (by first | exact Nat.le_refl _ | (simp; done) | (simp; omega) | omega) _ | refine bel_trans ?_ (by assumption)))
def tfH (T : Int) : Int := if T < 340282366920938463463374607431768211456 then T / 18446744073709551616 else 0
def tfL (T : Int) : Int := if T < 340282366920938463463374607431768211456 then T % 18446744073709551616 else 0
theorem tenfold_all (h l x : Int) (hh : Wd h) (hl : Wd l) (hx : 48 ≤ x ∧ x < 58) (w : World) : Calls Tryd.prog 16 #[.agg #[.int .u64 h, .int .u64 l], .int .u8 x] w fun r w' =>
      r = .returned (.tuple #[.agg #[.int .u64 (tfH (tenV h l x)), .int .u64 (tfL (tenV h l x))], .bool (decide (tenV h l x < 340282366920938463463374607431768211456))]) ∧ Below w.heap.size w w' := by
  refine (tenfold_any h l x hh hl hx w).mono ?_
  rintro r w' ⟨a, b, rfl, hab, hb⟩
  unfold tfH tfL
  by_cases hT : tenV h l x < 340282366920938463463374607431768211456
  · obtain ⟨rfl, rfl⟩ := hab.1 hT
    rw [if_pos hT, if_pos hT]
    exact ⟨rfl, hb⟩
  · obtain ⟨rfl, rfl⟩ := hab.2 hT
    rw [if_neg hT, if_neg hT]
    exact ⟨rfl, hb⟩

theorem rgt_bad {d : Nat → Int} {n i : Nat} (hi : i < n) (h : d i < 48 ∨ 57 < d i) : rgt d n = false := by
  cases q : rgt d n with
  | false => rfl
  | true => have := (rgt_iff.1 q).2.1 i hi; omega
theorem rgt_good {d : Nat → Int} {n : Nat} (h : ∀ i, i < n → 48 ≤ d i ∧ d i < 58) : rgt d n = (decide (0 < n) && (decide (n = 1) || decide (d 0 ≠ 48))) := by
  unfold rgt; rw [decide_eq_true h, Bool.and_true]
theorem strF_nil (d : Nat → Int) (n : Nat) : (strF d n).toList = [] ↔ n = 0 := by rw [strF_toList]; simp
theorem strF_48 {d : Nat → Int} (hd : ∀ i, 0 ≤ d i ∧ d i < 256) (n : Nat) : (strF d n).toList = [48] ↔ n = 1 ∧ d 0 = 48 := by
  rw [strF_toList]
  constructor
  · intro h
    have hl := congrArg List.length h
    simp at hl
    subst hl
    simp [List.range_succ] at h
    have a := hd 0
    have h2 := congrArg UInt8.toNat h
    simp at h2
    omega
  · rintro ⟨rfl, h⟩
    simp [List.range_succ, h]
set_option maxHeartbeats 4000000 in
theorem right_any (n : Nat) (d : Nat → Int) (hn : n ≤ maxLen) (hd : ∀ i, 0 ≤ d i ∧ d i < 256) (w : World) : Calls Tryd.prog 15 #[.string (strF d n)] w fun r w' =>
      r = .returned (.bool (rgt d n)) ∧ Below w.heap.size w w' := by
  unfold maxLen at hn
  have es : (strF d n).size = n := strF_size d n
  replace hd := Lib.hid hd
  go_enter Tryd.func15, Tryd.ntmps15
  go_wp2
  go_loopw [6] (fun i wr => ∃ k : Nat, k ≤ n ∧ i = .int .i64 k ∧ Hid (∀ j, j < k → 48 ≤ d j ∧ d j < 58) ∧ Hid (Below w.heap.size w wr)) (fun i _ => n - (intOf i).toNat)
  case atStart => exact ⟨0, by omega, rfl, fun j hj => by omega, Below.refl _ _⟩
  case round =>
    obtain ⟨k, hk, rfl, hq, hb⟩ := hrel
    by_cases hin : k < n
    · have hsz : k < (strF d n).size := by rw [es]; exact hin
      have q1 := strF_at hsz (hd.out k)
      have a1 := hd.out k
      by_cases g1 : d k < 48
      · have f := Lib.hid (rgt_bad hin (Or.inl g1))
        have c1 : decide (d k < 48) = true := decide_eq_true g1
        go_wp2
        go_ret
        exact ⟨by rw [f.out]; rfl, by have t := hb.out; (repeat (first | exact Below.refl _ _ | assumption | refine below_drewN ?_ _ | refine bel_grow ?_ _ | refine Below.drew ?_ | refine bel_alloc ?_ _ | refine bel_set ?_ (by first | exact Nat.le_refl _ | (simp; done) | (simp; omega) | omega) _ | refine bel_trans ?_ (by assumption)))⟩
      · by_cases g2 : 57 < d k
        · have f := Lib.hid (rgt_bad hin (Or.inr g2))
          have c1 : decide (d k < 48) = false := decide_eq_false g1
          have c2 : decide (57 < d k) = true := decide_eq_true g2
          go_wp2
          go_ret
          exact ⟨by rw [f.out]; rfl, by have t := hb.out; (repeat (first | exact Below.refl _ _ | assumption | refine below_drewN ?_ _ | refine bel_grow ?_ _ | refine Below.drew ?_ | refine bel_alloc ?_ _ | refine bel_set ?_ (by first | exact Nat.le_refl _ | (simp; done) | (simp; omega) | omega) _ | refine bel_trans ?_ (by assumption)))⟩
        · have c1 : decide (d k < 48) = false := decide_eq_false g1
          have c2 : decide (57 < d k) = false := decide_eq_false g2
          go_wp2
          go_roundw
          case rel =>
            refine ⟨k + 1, by omega, by go_num, ?_, by have t := hb.out; (repeat (first | exact Below.refl _ _ | assumption | refine below_drewN ?_ _ | refine bel_grow ?_ _ | refine Below.drew ?_ | refine bel_alloc ?_ _ | refine bel_set ?_ (by first | exact Nat.le_refl _ | (simp; done) | (simp; omega) | omega) _ | refine bel_trans ?_ (by assumption)))⟩
            intro j hj
            by_cases e : j = k
            · subst e; omega
            · exact hq.out j (by omega)
          case measure => simp [intOf]; omega
    · obtain rfl : k = n := by omega
      have f := Lib.hid (rgt_good hq.out)
      by_cases k0 : k = 0
      · subst k0
        have z0 : (strF d 0).toList = [] := (strF_nil d 0).2 rfl
        go_wp2
        go_ret
        exact ⟨by rw [f.out]; rfl, by have t := hb.out; (repeat (first | exact Below.refl _ _ | assumption | refine below_drewN ?_ _ | refine bel_grow ?_ _ | refine Below.drew ?_ | refine bel_alloc ?_ _ | refine bel_set ?_ (by first | exact Nat.le_refl _ | (simp; done) | (simp; omega) | omega) _ | refine bel_trans ?_ (by assumption)))⟩
      · have z0 : ¬ (strF d k).toList = [] := fun h => k0 ((strF_nil d k).1 h)
        have h0 : 0 < k := by omega
        by_cases z1 : (strF d k).toList = [48]
        · have z2 := Lib.hid ((strF_48 hd.out k).1 z1)
          go_wp2
          go_ret
          refine ⟨?_, by have t := hb.out; (repeat (first | exact Below.refl _ _ | assumption | refine below_drewN ?_ _ | refine bel_grow ?_ _ | refine Below.drew ?_ | refine bel_alloc ?_ _ | refine bel_set ?_ (by first | exact Nat.le_refl _ | (simp; done) | (simp; omega) | omega) _ | refine bel_trans ?_ (by assumption)))⟩
          rw [f.out, decide_eq_true h0, decide_eq_true z2.out.1]
          rfl
        · have z2 := Lib.hid (mt (strF_48 hd.out k).2 z1)
          have hsz : 0 < (strF d k).size := by rw [es]; exact h0
          have q1 := strF_at hsz (hd.out 0)
          have a1 := hd.out 0
          go_wp2
          go_ret
          refine ⟨?_, by have t := hb.out; (repeat (first | exact Below.refl _ _ | assumption | refine below_drewN ?_ _ | refine bel_grow ?_ _ | refine Below.drew ?_ | refine bel_alloc ?_ _ | refine bel_set ?_ (by first | exact Nat.le_refl _ | (simp; done) | (simp; omega) | omega) _ | refine bel_trans ?_ (by assumption)))⟩
          rw [f.out, decide_eq_true h0]
          have x1 : (strF d k).toList.isEmpty = false := by rw [List.isEmpty_eq_false_iff]; exact z0
          have x2 : ((strF d k).toList == [48]) = false := by rw [beq_eq_false_iff_ne]; exact z1
          have x3 : (decide (k = 1) || decide (d 0 ≠ 48)) = (d 0 != 48) := by
            have := z2.out
            by_cases y : d 0 = 48
            · rw [decide_eq_false (by intro h; exact this ⟨h, y⟩), decide_eq_false (by simpa using y), y]; rfl
            · rw [decide_eq_true (p := d 0 ≠ 48) y, Bool.or_true]; symm; rw [bne_iff_ne]; exact y
          rw [x3]
          show Ending.returned (Value.bool (!(strF d k).toList.isEmpty && ((strF d k).toList == [48] || d 0 != 48))) = _
          rw [x1, x2]
          rfl
end Go.Proofs.YtmlaehjjeadbeaaDoor
