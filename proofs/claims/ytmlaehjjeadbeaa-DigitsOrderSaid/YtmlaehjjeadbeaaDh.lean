/-
  DigitsOrder's walk.
-/
import Derived.Test.YtmlaehjjeadbeaaDg
import Derived.Test.YtmlaehjjeadbeaaWideCmp
import Derived.Test.YtmlaehjjeadbeaaLess
namespace Go.Proofs.Ytmlaehjjeadbeaa
set_option linter.unusedVariables false
set_option linter.unusedSimpArgs false
open Go.RowKit

/-- how the texts of two numbers stand -/
theorem texts_stand (A B : Nat) (hA : A < 10 ^ 40) (hB : B < 10 ^ 40) :
    (decide ((ndg A : Int) < ndg B) || (((ndg A : Int) == ndg B) && Op.bytesLess (strF (dtx A (ndg A)) (ndg A)).toList (strF (dtx B (ndg B)) (ndg B)).toList)) = decide (A < B) := by
  have dA := ndg_DL hA
  have dB := ndg_DL hB
  rcases Nat.lt_trichotomy (ndg A) (ndg B) with h | h | h
  · have := DL_lt dA dB h
    rw [decide_eq_true (p := (ndg A : Int) < ndg B) (by omega), decide_eq_true this]; rfl
  · rw [← h]
    rw [← h] at dB
    rw [decide_eq_false (p := (ndg A : Int) < ndg A) (by omega), beq_self_eq_true, Bool.true_and, Bool.false_or, strF_less (fun i _ => dtx_ok _ _ i) (fun i _ => dtx_ok _ _ i), val_less_iff (fun i _ => dtx_lo _ _ i) (fun i _ => dtx_lo _ _ i), val_text dA.2.1, val_text dB.2.1]
    congr 1
    rw [eq_iff_iff]
    omega
  · have := DL_lt dB dA h
    rw [decide_eq_false (p := (ndg A : Int) < ndg B) (by omega), beq_eq_false_iff_ne.2 (show (ndg A : Int) ≠ ndg B by omega), decide_eq_false (show ¬ A < B by omega)]; rfl
theorem texts_same (A B : Nat) (hA : A < 10 ^ 40) (hB : B < 10 ^ 40) :
    ((strF (dtx A (ndg A)) (ndg A)).toList == (strF (dtx B (ndg B)) (ndg B)).toList) = decide (A = B) := by
  rw [strF_eq (fun i _ => dtx_ok _ _ i) (fun i _ => dtx_ok _ _ i)]
  congr 1
  rw [eq_iff_iff]
  constructor
  · rintro ⟨h1, h2⟩
    have a := val_text (ndg_DL hA).2.1
    have b := val_text (ndg_DL hB).2.1
    rw [val_congr h2, h1, b] at a
    omega
  · rintro rfl
    exact ⟨rfl, fun i _ => rfl⟩
theorem ndg_39 {A : Nat} (h : A < 340282366920938463463374607431768211456) : 1 ≤ ndg A ∧ ndg A ≤ 39 := by
  obtain ⟨a, b, c⟩ := ndg_DL (N := A) (by omega)
  refine ⟨a, ?_⟩
  rcases Nat.lt_or_ge 39 (ndg A) with h2 | h2
  · rcases c with c | c
    · omega
    · have : (10 : Nat) ^ 39 ≤ 10 ^ (ndg A - 1) := Nat.pow_le_pow_right (by omega) (by omega)
      omega
  · exact h2
theorem cmpV_neg {a b c d : Int} (ha : Wd a) (hb : Wd b) (hc : Wd c) (hd : Wd d) : decide (cmpV a b c d < 0) = decide ((V a b).toNat < (V c d).toNat) := by
  unfold Wd at *
  congr 1
  rw [eq_iff_iff]
  unfold cmpV cmpI V
  rcases Int.lt_trichotomy a c with h | h | h
  · rw [if_pos (by rw [if_pos h]; rfl), if_pos h]; omega
  · subst h
    rw [if_neg (by rw [if_neg (by omega), if_neg (by omega)]; decide)]
    split
    · omega
    · split <;> omega
  · rw [if_pos (by rw [if_neg (by omega), if_pos h]; rfl), if_neg (by omega), if_pos h]; omega

set_option maxHeartbeats 8000000 in
theorem digitsOrder_any (a b c d : Int) (ha : Wd a) (hb : Wd b) (hc : Wd c) (hd : Wd d) (w : World) : Calls Try.prog 3 #[.agg #[.int .u64 a, .int .u64 b], .agg #[.int .u64 c, .int .u64 d]] w fun r w' =>
      r = .returned (.bool true) ∧ Below w.heap.size w w' := by
  obtain ⟨A, hA⟩ : ∃ A : Nat, V a b = A := ⟨(V a b).toNat, by unfold V Wd at *; omega⟩
  obtain ⟨B, hB⟩ : ∃ B : Nat, V c d = B := ⟨(V c d).toNat, by unfold V Wd at *; omega⟩
  have xA : A < 340282366920938463463374607431768211456 := by unfold V Wd at *; omega
  have xB : B < 340282366920938463463374607431768211456 := by unfold V Wd at *; omega
  have ea : (A : Int) / 18446744073709551616 = a ∧ (A : Int) % 18446744073709551616 = b := by unfold V Wd at *; omega
  have eb : (B : Int) / 18446744073709551616 = c ∧ (B : Int) % 18446744073709551616 = d := by unfold V Wd at *; omega
  have HX := Lib.hid dfixed_any
  have HA := Lib.hid (fun w => text_any A (ndg A) xA (ndg_DL (by omega)) w)
  have HB := Lib.hid (fun w => text_any B (ndg B) xB (ndg_DL (by omega)) w)
  rw [ea.1, ea.2] at HA
  rw [eb.1, eb.2] at HB
  have HC := Lib.hid (fun w => refcmp_any a b c d ha hb hc hd w)
  have k1 := cmpV_neg ha hb hc hd
  rw [hA, hB, Int.toNat_natCast, Int.toNat_natCast] at k1
  have k2 := texts_stand A B (by omega) (by omega)
  have k3 := texts_same A B (by omega) (by omega)
  have k4 : (a == c && b == d) = decide (A = B) := by
    rw [Bool.eq_iff_iff, Bool.and_eq_true, beq_iff_eq, beq_iff_eq, decide_eq_true_eq]; omega
  have l1 := ndg_39 xA
  have l2 := ndg_39 xB
  have s1 : (strF (dtx A (ndg A)) (ndg A)).size = ndg A := strF_size _ _
  have s2 : (strF (dtx B (ndg B)) (ndg B)).size = ndg B := strF_size _ _
  clear ea eb ha hb hc hd hA hB xA xB
  generalize strF (dtx A (ndg A)) (ndg A) = s at *
  generalize strF (dtx B (ndg B)) (ndg B) = t at *
  generalize ndg A = L at *
  generalize ndg B = M at *
  generalize cmpV a b c d = v at *
  generalize decide (A < B) = lt at *
  generalize decide (A = B) = eq at *
  have x1 : 1 ≤ L := l1.1
  have x2 : L ≤ 39 := l1.2
  replace l1 := Lib.hid l1
  replace l2 := Lib.hid l2
  rcases Nat.lt_trichotomy L M with h | h | h
  · have y1 : decide (L < M) = true := decide_eq_true h
    rw [decide_eq_true (p := (L : Int) < M) (by omega), Bool.true_or] at k2
    subst k2
    have k5 : v < 0 := by simpa using k1
    replace h := Lib.hid h
    cases eq
    all_goals (
          replace k1 := Lib.hid k1
          go_enter Try.func3, Try.ntmps3
          go_wp2_with fail
          first | (with_reducible refine rgrow2 (by kernel_rfl) (by kernel_rfl) ?_) | (refine rgrow (by kernel_rfl) (by kernel_rfl) ?_)
          repeat (go_big_quiet_step (((go_at_call 5; first | (with_reducible exact grow_call (HA.out _)) | (with_reducible exact grow_call (HB.out _))))))
          refine wpQuiet_nil ?_
          intro dr
          go_wp2_with fail
          refine (HX.out _).mono ?_
          rintro r w1 ⟨rfl, hb1⟩
          have hb2 : Below w.heap.size w w1 := by (repeat (first | exact Below.refl _ _ | assumption | refine below_drewN ?_ _ | refine bel_grow ?_ _ | refine Below.drew ?_ | refine bel_alloc ?_ _ | refine bel_set ?_ (by first | exact Nat.le_refl _ | (simp; done) | (simp; omega) | omega) _ | refine bel_trans ?_ (by assumption)))
          have gC : Blk w1 w.heap.size 24 #[.int .u64 a, .int .u64 b] := (((Blk.new w 24 #[.int .u64 a, .int .u64 b]).alloc (.cells #[.int .u64 c, .int .u64 d] 24)).grow dr).kept hb1
          have gD : Blk w1 (w.heap.size + 1) 24 #[.int .u64 c, .int .u64 d] := by
            have g := ((Blk.new (w.alloc (.cells #[.int .u64 a, .int .u64 b] 24)) 24 #[.int .u64 c, .int .u64 d]).grow dr).kept hb1
            simpa using g
          have p0 := (gC).cell 0
          have p1 := (gC).cell 1
          have pf0 := (gC).frozen 0
          have pf1 := (gC).frozen 1
          have pl := (gC).lt
          have q0 := (gD).cell 0
          have q1 := (gD).cell 1
          have qf0 := (gD).frozen 0
          have qf1 := (gD).frozen 1
          have ql := (gD).lt
          simp at p0 p1 q0 q1
          replace gC := Lib.hid gC
          replace gD := Lib.hid gD
          replace hb2 := Lib.hid hb2
          clear hb1
          go_wp2_with fail
          refine (HC.out _).mono ?_
          rintro r w2 ⟨rfl, hb3⟩
          have hb4 : Below w.heap.size w w2 := bel_eld hb2.out hb3
          have gE := gC.out.kept hb3
          have gF := gD.out.kept hb3
          clear p0 p1 pf0 pf1 pl q0 q1 qf0 qf1 ql gC gD hb2 hb3
          have p0 := (gE).cell 0
          have p1 := (gE).cell 1
          have pf0 := (gE).frozen 0
          have pf1 := (gE).frozen 1
          have pl := (gE).lt
          have q0 := (gF).cell 0
          have q1 := (gF).cell 1
          have qf0 := (gF).frozen 0
          have qf1 := (gF).frozen 1
          have ql := (gF).lt
          simp at p0 p1 q0 q1
          replace hb4 := Lib.hid hb4
          clear gE gF
          go_wp2_with fail
          go_ret
          refine ⟨?_, hb4.out⟩; first | rfl | (simp; done) | (simp; omega))
  · subst h
    have y1 : decide (L < L) = false := decide_eq_false (by omega)
    rw [decide_eq_false (p := (L : Int) < L) (by omega), beq_self_eq_true, Bool.true_and, Bool.false_or] at k2
    cases lt
    · have k5 : ¬ v < 0 := by simpa using k1
      cases eq
      all_goals (
          replace k1 := Lib.hid k1
          go_enter Try.func3, Try.ntmps3
          go_wp2_with fail
          first | (with_reducible refine rgrow2 (by kernel_rfl) (by kernel_rfl) ?_) | (refine rgrow (by kernel_rfl) (by kernel_rfl) ?_)
          repeat (go_big_quiet_step (((go_at_call 5; first | (with_reducible exact grow_call (HA.out _)) | (with_reducible exact grow_call (HB.out _))))))
          refine wpQuiet_nil ?_
          intro dr
          go_wp2_with fail
          refine (HX.out _).mono ?_
          rintro r w1 ⟨rfl, hb1⟩
          have hb2 : Below w.heap.size w w1 := by (repeat (first | exact Below.refl _ _ | assumption | refine below_drewN ?_ _ | refine bel_grow ?_ _ | refine Below.drew ?_ | refine bel_alloc ?_ _ | refine bel_set ?_ (by first | exact Nat.le_refl _ | (simp; done) | (simp; omega) | omega) _ | refine bel_trans ?_ (by assumption)))
          have gC : Blk w1 w.heap.size 24 #[.int .u64 a, .int .u64 b] := (((Blk.new w 24 #[.int .u64 a, .int .u64 b]).alloc (.cells #[.int .u64 c, .int .u64 d] 24)).grow dr).kept hb1
          have gD : Blk w1 (w.heap.size + 1) 24 #[.int .u64 c, .int .u64 d] := by
            have g := ((Blk.new (w.alloc (.cells #[.int .u64 a, .int .u64 b] 24)) 24 #[.int .u64 c, .int .u64 d]).grow dr).kept hb1
            simpa using g
          have p0 := (gC).cell 0
          have p1 := (gC).cell 1
          have pf0 := (gC).frozen 0
          have pf1 := (gC).frozen 1
          have pl := (gC).lt
          have q0 := (gD).cell 0
          have q1 := (gD).cell 1
          have qf0 := (gD).frozen 0
          have qf1 := (gD).frozen 1
          have ql := (gD).lt
          simp at p0 p1 q0 q1
          replace gC := Lib.hid gC
          replace gD := Lib.hid gD
          replace hb2 := Lib.hid hb2
          clear hb1
          go_wp2_with fail
          refine (HC.out _).mono ?_
          rintro r w2 ⟨rfl, hb3⟩
          have hb4 : Below w.heap.size w w2 := bel_eld hb2.out hb3
          have gE := gC.out.kept hb3
          have gF := gD.out.kept hb3
          clear p0 p1 pf0 pf1 pl q0 q1 qf0 qf1 ql gC gD hb2 hb3
          have p0 := (gE).cell 0
          have p1 := (gE).cell 1
          have pf0 := (gE).frozen 0
          have pf1 := (gE).frozen 1
          have pl := (gE).lt
          have q0 := (gF).cell 0
          have q1 := (gF).cell 1
          have qf0 := (gF).frozen 0
          have qf1 := (gF).frozen 1
          have ql := (gF).lt
          simp at p0 p1 q0 q1
          replace hb4 := Lib.hid hb4
          clear gE gF
          go_wp2_with fail
          go_ret
          refine ⟨?_, hb4.out⟩; first | rfl | (simp; done) | (simp; omega))
    · have k5 : v < 0 := by simpa using k1
      cases eq
      all_goals (
          replace k1 := Lib.hid k1
          go_enter Try.func3, Try.ntmps3
          go_wp2_with fail
          first | (with_reducible refine rgrow2 (by kernel_rfl) (by kernel_rfl) ?_) | (refine rgrow (by kernel_rfl) (by kernel_rfl) ?_)
          repeat (go_big_quiet_step (((go_at_call 5; first | (with_reducible exact grow_call (HA.out _)) | (with_reducible exact grow_call (HB.out _))))))
          refine wpQuiet_nil ?_
          intro dr
          go_wp2_with fail
          refine (HX.out _).mono ?_
          rintro r w1 ⟨rfl, hb1⟩
          have hb2 : Below w.heap.size w w1 := by (repeat (first | exact Below.refl _ _ | assumption | refine below_drewN ?_ _ | refine bel_grow ?_ _ | refine Below.drew ?_ | refine bel_alloc ?_ _ | refine bel_set ?_ (by first | exact Nat.le_refl _ | (simp; done) | (simp; omega) | omega) _ | refine bel_trans ?_ (by assumption)))
          have gC : Blk w1 w.heap.size 24 #[.int .u64 a, .int .u64 b] := (((Blk.new w 24 #[.int .u64 a, .int .u64 b]).alloc (.cells #[.int .u64 c, .int .u64 d] 24)).grow dr).kept hb1
          have gD : Blk w1 (w.heap.size + 1) 24 #[.int .u64 c, .int .u64 d] := by
            have g := ((Blk.new (w.alloc (.cells #[.int .u64 a, .int .u64 b] 24)) 24 #[.int .u64 c, .int .u64 d]).grow dr).kept hb1
            simpa using g
          have p0 := (gC).cell 0
          have p1 := (gC).cell 1
          have pf0 := (gC).frozen 0
          have pf1 := (gC).frozen 1
          have pl := (gC).lt
          have q0 := (gD).cell 0
          have q1 := (gD).cell 1
          have qf0 := (gD).frozen 0
          have qf1 := (gD).frozen 1
          have ql := (gD).lt
          simp at p0 p1 q0 q1
          replace gC := Lib.hid gC
          replace gD := Lib.hid gD
          replace hb2 := Lib.hid hb2
          clear hb1
          go_wp2_with fail
          refine (HC.out _).mono ?_
          rintro r w2 ⟨rfl, hb3⟩
          have hb4 : Below w.heap.size w w2 := bel_eld hb2.out hb3
          have gE := gC.out.kept hb3
          have gF := gD.out.kept hb3
          clear p0 p1 pf0 pf1 pl q0 q1 qf0 qf1 ql gC gD hb2 hb3
          have p0 := (gE).cell 0
          have p1 := (gE).cell 1
          have pf0 := (gE).frozen 0
          have pf1 := (gE).frozen 1
          have pl := (gE).lt
          have q0 := (gF).cell 0
          have q1 := (gF).cell 1
          have qf0 := (gF).frozen 0
          have qf1 := (gF).frozen 1
          have ql := (gF).lt
          simp at p0 p1 q0 q1
          replace hb4 := Lib.hid hb4
          clear gE gF
          go_wp2_with fail
          go_ret
          refine ⟨?_, hb4.out⟩; first | rfl | (simp; done) | (simp; omega))
  · have y1 : decide (L < M) = false := decide_eq_false (by omega)
    have y2 : ((L : Int) == M) = false := beq_eq_false_iff_ne.2 (by omega)
    rw [decide_eq_false (p := (L : Int) < M) (by omega), y2, Bool.false_and, Bool.false_or] at k2
    subst k2
    have k5 : ¬ v < 0 := by simpa using k1
    have y3 : ¬ L < M := by omega
    replace h := Lib.hid h
    cases eq
    all_goals (
          replace k1 := Lib.hid k1
          go_enter Try.func3, Try.ntmps3
          go_wp2_with fail
          first | (with_reducible refine rgrow2 (by kernel_rfl) (by kernel_rfl) ?_) | (refine rgrow (by kernel_rfl) (by kernel_rfl) ?_)
          repeat (go_big_quiet_step (((go_at_call 5; first | (with_reducible exact grow_call (HA.out _)) | (with_reducible exact grow_call (HB.out _))))))
          refine wpQuiet_nil ?_
          intro dr
          go_wp2_with fail
          refine (HX.out _).mono ?_
          rintro r w1 ⟨rfl, hb1⟩
          have hb2 : Below w.heap.size w w1 := by (repeat (first | exact Below.refl _ _ | assumption | refine below_drewN ?_ _ | refine bel_grow ?_ _ | refine Below.drew ?_ | refine bel_alloc ?_ _ | refine bel_set ?_ (by first | exact Nat.le_refl _ | (simp; done) | (simp; omega) | omega) _ | refine bel_trans ?_ (by assumption)))
          have gC : Blk w1 w.heap.size 24 #[.int .u64 a, .int .u64 b] := (((Blk.new w 24 #[.int .u64 a, .int .u64 b]).alloc (.cells #[.int .u64 c, .int .u64 d] 24)).grow dr).kept hb1
          have gD : Blk w1 (w.heap.size + 1) 24 #[.int .u64 c, .int .u64 d] := by
            have g := ((Blk.new (w.alloc (.cells #[.int .u64 a, .int .u64 b] 24)) 24 #[.int .u64 c, .int .u64 d]).grow dr).kept hb1
            simpa using g
          have p0 := (gC).cell 0
          have p1 := (gC).cell 1
          have pf0 := (gC).frozen 0
          have pf1 := (gC).frozen 1
          have pl := (gC).lt
          have q0 := (gD).cell 0
          have q1 := (gD).cell 1
          have qf0 := (gD).frozen 0
          have qf1 := (gD).frozen 1
          have ql := (gD).lt
          simp at p0 p1 q0 q1
          replace gC := Lib.hid gC
          replace gD := Lib.hid gD
          replace hb2 := Lib.hid hb2
          clear hb1
          go_wp2_with fail
          refine (HC.out _).mono ?_
          rintro r w2 ⟨rfl, hb3⟩
          have hb4 : Below w.heap.size w w2 := bel_eld hb2.out hb3
          have gE := gC.out.kept hb3
          have gF := gD.out.kept hb3
          clear p0 p1 pf0 pf1 pl q0 q1 qf0 qf1 ql gC gD hb2 hb3
          have p0 := (gE).cell 0
          have p1 := (gE).cell 1
          have pf0 := (gE).frozen 0
          have pf1 := (gE).frozen 1
          have pl := (gE).lt
          have q0 := (gF).cell 0
          have q1 := (gF).cell 1
          have qf0 := (gF).frozen 0
          have qf1 := (gF).frozen 1
          have ql := (gF).lt
          simp at p0 p1 q0 q1
          replace hb4 := Lib.hid hb4
          clear gE gF
          go_wp2_with fail
          go_ret
          refine ⟨?_, hb4.out⟩; first | rfl | (simp; done) | (simp; omega))
end Go.Proofs.Ytmlaehjjeadbeaa
