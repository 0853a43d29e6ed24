/-
  Plain laws of numbers of two words, of what is asked for, of room and of moves.
-/
import Derived.Test.YtpbnakoimlmhnaaBa
namespace Go.Proofs.Ytpbnakoimlmhnaa
set_option linter.unusedVariables false
set_option linter.unusedSimpArgs false
open Go.RowKit

theorem add_comm' (a b c d : Int) : addB c d a b = addB a b c d ∧ addH c d a b = addH a b c d ∧ addL c d a b = addL a b c d := by
  have e : addB c d a b = addB a b c d := by unfold addB; rw [Int.add_comm]
  refine ⟨e, ?_, ?_⟩
  · unfold addH; rw [e, Int.add_comm c a, Int.add_comm d b]
  · unfold addL; rw [e, Int.add_comm d b]
theorem back1 {a b c d : Int} (ha : Wd a) (hb : Wd b) (hc : Wd c) (hd : Wd d) (h : addB a b c d = true) : subB (addH a b c d) (addL a b c d) c d = true ∧ subH (addH a b c d) (addL a b c d) c d = a ∧ subL (addH a b c d) (addL a b c d) c d = b := by
  have e1 : addH a b c d = a + c + (b + d) / 18446744073709551616 := by unfold addH; rw [if_pos h]
  have e2 : addL a b c d = (b + d) % 18446744073709551616 := by unfold addL; rw [if_pos h]
  have k : subB (addH a b c d) (addL a b c d) c d = true := by
    rw [e1, e2]; unfold subB Wd at *; simp; omega
  refine ⟨k, ?_, ?_⟩
  · unfold subH; rw [if_pos k, e1, e2]; unfold Wd at *; split <;> omega
  · unfold subL; rw [if_pos k, e2]; unfold Wd at *; omega
theorem back2 {a b c d : Int} (ha : Wd a) (hb : Wd b) (hc : Wd c) (hd : Wd d) (h : subB a b c d = true) : addB (subH a b c d) (subL a b c d) c d = true ∧ addH (subH a b c d) (subL a b c d) c d = a ∧ addL (subH a b c d) (subL a b c d) c d = b := by
  have e1 : subH a b c d = a - c - (if b < d then 1 else 0) := by unfold subH; rw [if_pos h]
  have e2 : subL a b c d = (b - d) % 18446744073709551616 := by unfold subL; rw [if_pos h]
  have h' : c * 18446744073709551616 + d ≤ a * 18446744073709551616 + b := by simpa [subB] using h
  have k : addB (subH a b c d) (subL a b c d) c d = true := by
    rw [e1, e2]; unfold addB Wd at *; simp only [decide_eq_true_eq]; split <;> omega
  refine ⟨k, ?_, ?_⟩
  · unfold addH; rw [if_pos k, e1, e2]; unfold Wd at *; split <;> omega
  · unfold addL; rw [if_pos k, e2]; unfold Wd at *; omega
theorem cmp_ge {a b c d : Int} (ha : Wd a) (hb : Wd b) (hc : Wd c) (hd : Wd d) : subB a b c d = decide (0 ≤ cmpV a b c d) := by
  rw [cmpV_V hb hd, subB_V]
  unfold cmpI
  split
  · simp; omega
  · split <;> (simp; omega)
theorem rest_lt {a b c d : Int} (ha : Wd a) (hb : Wd b) (hc : Wd c) (hd : Wd d) (h : addB a b c d = false) : cmpV (subH 18446744073709551615 18446744073709551615 a b) (subL 18446744073709551615 18446744073709551615 a b) c d < 0 := by
  have um : Wd 18446744073709551615 := by unfold Wd; omega
  obtain ⟨h1, h2⟩ := sub_u um um ha hb
  rw [cmpV_V h2 hd]
  have k : V a b ≤ V 18446744073709551615 18446744073709551615 := by unfold V Wd at *; omega
  have e : V (subH 18446744073709551615 18446744073709551615 a b) (subL 18446744073709551615 18446744073709551615 a b) = V 18446744073709551615 18446744073709551615 - V a b := by
    rw [subH_V um hb k, subL_V k, V_of]
  rw [e]
  rw [addB_V] at h
  have h' : ¬ V a b + V c d < pw 16 := by simpa using h
  rw [pw_16] at h'
  unfold cmpI
  rw [if_pos]
  · decide
  · rw [show V 18446744073709551615 18446744073709551615 = 340282366920938463463374607431768211455 by decide]; omega

theorem s3_u {a b c d e f : Int} (h1 : Wd a) (h2 : Wd b) (h3 : Wd c) (h4 : Wd d) (h5 : Wd e) (h6 : Wd f) : Wd (s3H a b c d e f) ∧ Wd (s3L a b c d e f) := by
  unfold s3H s3L sumH sumL
  have hz : Wd 0 := by unfold Wd; omega
  cases hb : sumB (thr3 a c e) (thr3 b d f) 3
  · exact ⟨hz, hz⟩
  · have hn := tot_nn (thr_wd h1 h2 h3 h4 h5 h6)
    have hl : tot (thr3 a c e) (thr3 b d f) 3 < pw 16 := by simpa [sumB] using hb
    exact Wd_of ⟨hn, hl⟩
theorem add_sv {a b c d : Int} (h : addB a b c d = true) : V (addH a b c d) (addL a b c d) = V a b + V c d := by
  rw [addB_V] at h
  have h' : V a b + V c d < pw 16 := by simpa using h
  rw [addH_V h', addL_V h', V_of]
theorem sub_sv {a b c d : Int} (hb : Wd b) (hd : Wd d) (h : subB a b c d = true) : V (subH a b c d) (subL a b c d) = V a b - V c d := by
  rw [subB_V] at h
  have h' : V c d ≤ V a b := by simpa using h
  rw [subH_V hb hd h', subL_V h', V_of]
theorem sub_no {a b c d : Int} (h : subB a b c d = false) : subH a b c d = 0 ∧ subL a b c d = 0 := by
  unfold subH subL; rw [h]; exact ⟨rfl, rfl⟩
theorem add_no {a b c d : Int} (h : addB a b c d = false) : addH a b c d = 0 ∧ addL a b c d = 0 := by
  unfold addH addL; rw [h]; exact ⟨rfl, rfl⟩
theorem addB_iff (a b c d : Int) : addB a b c d = true ↔ V a b + V c d < pw 16 := by rw [addB_V]; simp
theorem subB_iff (a b c d : Int) : subB a b c d = true ↔ V c d ≤ V a b := by rw [subB_V]; simp
theorem V_inj {a b c d : Int} (ha : Wd a) (hb : Wd b) (hc : Wd c) (hd : Wd d) (h : V a b = V c d) : a = c ∧ b = d := by
  unfold V Wd at *; omega
theorem V_00 : V 0 0 = 0 := by decide
theorem Wd0 : Wd 0 := by unfold Wd; decide
theorem le_sv {o1 o2 p1 p2 q1 q2 : Int} (h1 : Wd o1) (h2 : Wd o2) (h3 : Wd p1) (h4 : Wd p2) (h5 : Wd q1) (h6 : Wd q2) : V (leH o1 o2 p1 p2 q1 q2) (leL o1 o2 p1 p2 q1 q2) = if V p1 p2 + V q1 q2 ≤ V o1 o2 then V o1 o2 - (V p1 p2 + V q1 q2) else 0 := by
  obtain ⟨g1, g2⟩ := add_u h3 h4 h5 h6
  have b1 := V_lo h1 h2
  unfold leH leL
  cases ha : addB p1 p2 q1 q2
  · have hn : ¬ V p1 p2 + V q1 q2 < pw 16 := by intro hh; rw [(addB_iff _ _ _ _).2 hh] at ha; cases ha
    rw [if_neg (show ¬ V p1 p2 + V q1 q2 ≤ V o1 o2 by omega)]
    simp only [Bool.false_eq_true, if_false]
    exact V_00
  · have hv := add_sv ha
    simp only [if_true]
    cases hs : subB o1 o2 (addH p1 p2 q1 q2) (addL p1 p2 q1 q2)
    · have hn : ¬ V (addH p1 p2 q1 q2) (addL p1 p2 q1 q2) ≤ V o1 o2 := by intro hh; rw [(subB_iff _ _ _ _).2 hh] at hs; cases hs
      rw [hv] at hn
      rw [(sub_no hs).1, (sub_no hs).2, V_00, if_neg hn]
    · have hy := (subB_iff _ _ _ _).1 hs
      rw [hv] at hy
      rw [sub_sv h2 g2 hs, hv, if_pos hy]
theorem ls_sv {a b c d : Int} (h2 : Wd b) (h4 : Wd d) : V (lsH a b c d) (lsL a b c d) ≤ V a b ∧ V (lsH a b c d) (lsL a b c d) ≤ V c d ∧ (V (lsH a b c d) (lsL a b c d) = V a b ∨ V (lsH a b c d) (lsL a b c d) = V c d) := by
  unfold lsH lsL
  split
  · rename_i h
    rw [cmp_lt h4 h2] at h
    omega
  · rename_i h
    rw [cmp_lt h4 h2] at h
    omega
theorem cmp_pos {a b c d : Int} (hb : Wd b) (hd : Wd d) : (0 < cmpV a b c d) ↔ V c d < V a b := by
  rw [cmpV_V hb hd]
  unfold cmpI
  split
  · constructor
    · intro h; exact absurd h (by decide)
    · intro h; omega
  · split
    · constructor
      · intro _; assumption
      · intro _; decide
    · constructor
      · intro h; exact absurd h (by decide)
      · intro h; omega
theorem s3_iff {a b c d e f : Int} : s3B a b c d e f = true ↔ V a b + V c d + V e f < pw 16 := by
  show sumB (thr3 a c e) (thr3 b d f) 3 = true ↔ _
  unfold sumB
  rw [show tot (thr3 a c e) (thr3 b d f) 3 = 0 + V a b + V c d + V e f from rfl, Int.zero_add]
  simp
theorem s3_sv {a b c d e f : Int} (h : s3B a b c d e f = true) : V (s3H a b c d e f) (s3L a b c d e f) = V a b + V c d + V e f := by
  have e0 : tot (thr3 a c e) (thr3 b d f) 3 = V a b + V c d + V e f := by rw [show tot (thr3 a c e) (thr3 b d f) 3 = 0 + V a b + V c d + V e f from rfl, Int.zero_add]
  have h' : sumB (thr3 a c e) (thr3 b d f) 3 = true := h
  unfold s3H s3L sumH sumL
  rw [h', if_pos rfl, if_pos rfl, V_of, e0]
/-- the verdict where there is room -/
theorem room_0 {pen o1 o2 f1 f2 x1 x2 : Bool} : roomV pen o1 o2 f1 f2 x1 x2 = 0 ↔ (o1 = false ∧ o2 = false ∧ f1 = false ∧ f2 = false ∧ x1 = false ∧ x2 = false) := by
  unfold roomV
  cases pen <;> cases o1 <;> cases o2 <;> cases f1 <;> cases f2 <;> cases x1 <;> cases x2 <;> decide
theorem room_42 {pen o1 o2 f1 f2 x1 x2 : Bool} (h : x1 = false) : roomV pen o1 o2 f1 f2 x1 x2 ≠ 42 := by
  subst h
  unfold roomV
  cases pen <;> cases o1 <;> cases o2 <;> cases f1 <;> cases f2 <;> cases x2 <;> decide
theorem room_43 {pen o1 o2 f1 f2 x1 x2 : Bool} (h : x2 = false) : roomV pen o1 o2 f1 f2 x1 x2 ≠ 43 := by
  subst h
  unfold roomV
  cases pen <;> cases o1 <;> cases o2 <;> cases f1 <;> cases f2 <;> cases x1 <;> decide
/-- flags of 16 bits -/
theorem nat_orx (x : Nat) (hx : x < 65536) : ((x ||| 16) ^^^ x) &&& 65519 = 0 :=
  of_decide_eq_true (all16 (fun x => decide (((x ||| 16) ^^^ x) &&& 65519 = 0)) (by kernel_rfl) x hx)
theorem fl_or {f : Int} (h : 0 ≤ f ∧ f < 65536) : (bits .andNot .u16 (bits .xor .u16 (bits .or .u16 f 16) f) 16 == 0) = true := by
  have hlt : f.toNat < 65536 := by omega
  have b1 : f.toNat ||| 16 < 65536 := Nat.or_lt_two_pow (n := 16) (by omega) (by omega)
  have b2 : (f.toNat ||| 16) ^^^ f.toNat < 65536 := Nat.xor_lt_two_pow (n := 16) (by omega) (by omega)
  have ho := nat_orx f.toNat hlt
  rw [u16_or f 16 h.1 h.2 (by omega) (by omega), show (16 : Int).toNat = 16 from rfl]
  generalize f.toNat ||| 16 = y at *
  rw [u16_xor (y : Int) f (by omega) (by omega) h.1 h.2, Int.toNat_natCast]
  generalize y ^^^ f.toNat = z at *
  rw [u16_andNot (z : Int) 16 (by omega) (by omega) (by omega) (by omega), Int.toNat_natCast, show 65535 - (16 : Int).toNat = 65519 from rfl, ho]
  rfl
theorem nat_same (x : Nat) : x ^^^ x = 0 := Nat.xor_self x
theorem fl_same {f : Int} (h : 0 ≤ f ∧ f < 65536) : (bits .andNot .u16 (bits .xor .u16 f f) 16 == 0) = true := by
  rw [u16_xor f f h.1 h.2 h.1 h.2, Nat.xor_self]
  rfl
theorem ask1_le {b : Bool} {m1 m2 d1 d2 : Int} (h2 : Wd m2) (h4 : Wd d2) : V (ask1H b m1 m2 d1 d2) (ask1L b m1 m2 d1 d2) ≤ V m1 m2 ∧ (b = true → V (ask1H b m1 m2 d1 d2) (ask1L b m1 m2 d1 d2) ≤ V d1 d2) := by
  unfold ask1H ask1L
  cases b
  · exact ⟨Int.le_refl _, fun h => by cases h⟩
  · exact ⟨(ls_sv h2 h4).1, fun _ => (ls_sv h2 h4).2.1⟩
theorem ask_le {b16 b32 : Bool} {m1 m2 d1 d2 c1 c2 : Int} (h1 : Wd m1) (h2 : Wd m2) (h3 : Wd d1) (h4 : Wd d2) (h6 : Wd c2) : V (askH b16 b32 m1 m2 d1 d2 c1 c2) (askL b16 b32 m1 m2 d1 d2 c1 c2) ≤ V m1 m2 ∧ (b16 = true → V (askH b16 b32 m1 m2 d1 d2 c1 c2) (askL b16 b32 m1 m2 d1 d2 c1 c2) ≤ V d1 d2) ∧ (b32 = true → V (askH b16 b32 m1 m2 d1 d2 c1 c2) (askL b16 b32 m1 m2 d1 d2 c1 c2) ≤ V c1 c2) := by
  have k := ask1_le (b := b16) (m1 := m1) (m2 := m2) (d1 := d1) (d2 := d2) h2 h4
  have u := ask1_u (b := b16) h1 h2 h3 h4
  have k2 := ask1_le (b := b32) (m1 := ask1H b16 m1 m2 d1 d2) (m2 := ask1L b16 m1 m2 d1 d2) (d1 := c1) (d2 := c2) u.2 h6
  unfold askH askL
  exact ⟨Int.le_trans k2.1 k.1, fun h => Int.le_trans k2.1 (k.2 h), k2.2⟩
/-- what is balanced never exceeds what it is balanced by -/
theorem room_left {o1 o2 p1 p2 q1 q2 n1 n2 : Int} (h1 : Wd o1) (h2 : Wd o2) (h3 : Wd p1) (h4 : Wd p2) (h5 : Wd q1) (h6 : Wd q2) (h7 : Wd n1) (h8 : Wd n2) (hle : V n1 n2 ≤ V (leH o1 o2 p1 p2 q1 q2) (leL o1 o2 p1 p2 q1 q2)) (hp : 0 < V n1 n2) : decide (0 < cmpV (s3H p1 p2 q1 q2 n1 n2) (s3L p1 p2 q1 q2 n1 n2) o1 o2) = false := by
  rw [le_sv h1 h2 h3 h4 h5 h6] at hle
  have b1 := V_lo h1 h2
  have hb : s3B p1 p2 q1 q2 n1 n2 = true := s3_iff.2 (by split at hle <;> omega)
  have hs := s3_sv hb
  have hu := s3_u h3 h4 h5 h6 h7 h8
  have hc := cmp_pos (a := s3H p1 p2 q1 q2 n1 n2) (c := o1) hu.2 h2
  rw [hs] at hc
  have hn : ¬ 0 < cmpV (s3H p1 p2 q1 q2 n1 n2) (s3L p1 p2 q1 q2 n1 n2) o1 o2 := by
    intro h
    have := hc.1 h
    split at hle <;> omega
  simpa using hn
/-- where a total fits: the sum of the moved column and the other one -/
theorem tot_one {p1 p2 q1 q2 n1 n2 o1 o2 : Int} (h3 : Wd p1) (h4 : Wd p2) (h5 : Wd q1) (h6 : Wd q2) (h7 : Wd n1) (h8 : Wd n2) (h2 : Wd o2) (hs : s3B p1 p2 q1 q2 n1 n2 = true) (ha : addB p1 p2 n1 n2 = true) : addB (addH p1 p2 n1 n2) (addL p1 p2 n1 n2) q1 q2 = true ∧ (decide (0 < cmpV (s3H p1 p2 q1 q2 n1 n2) (s3L p1 p2 q1 q2 n1 n2) o1 o2) = false → decide (0 < cmpV (addH (addH p1 p2 n1 n2) (addL p1 p2 n1 n2) q1 q2) (addL (addH p1 p2 n1 n2) (addL p1 p2 n1 n2) q1 q2) o1 o2) = false) := by
  have e1 := add_sv ha
  have e2 := s3_iff.1 hs
  have hb : addB (addH p1 p2 n1 n2) (addL p1 p2 n1 n2) q1 q2 = true := (addB_iff _ _ _ _).2 (by omega)
  refine ⟨hb, fun h => ?_⟩
  have e3 := add_sv hb
  have e4 := s3_sv hs
  obtain ⟨u1, u2⟩ := add_u h3 h4 h7 h8
  obtain ⟨u3, u4⟩ := add_u u1 u2 h5 h6
  have hu := s3_u h3 h4 h5 h6 h7 h8
  have hn : ¬ 0 < cmpV (s3H p1 p2 q1 q2 n1 n2) (s3L p1 p2 q1 q2 n1 n2) o1 o2 := by simpa using h
  rw [cmp_pos hu.2 h2] at hn
  have : ¬ 0 < cmpV (addH (addH p1 p2 n1 n2) (addL p1 p2 n1 n2) q1 q2) (addL (addH p1 p2 n1 n2) (addL p1 p2 n1 n2) q1 q2) o1 o2 := by
    rw [cmp_pos u4 h2]
    omega
  simpa using this
theorem tot_two {p1 p2 q1 q2 n1 n2 o1 o2 : Int} (h3 : Wd p1) (h4 : Wd p2) (h5 : Wd q1) (h6 : Wd q2) (h7 : Wd n1) (h8 : Wd n2) (h2 : Wd o2) (hs : s3B p1 p2 q1 q2 n1 n2 = true) (ha : addB q1 q2 n1 n2 = true) : addB p1 p2 (addH q1 q2 n1 n2) (addL q1 q2 n1 n2) = true ∧ (decide (0 < cmpV (s3H p1 p2 q1 q2 n1 n2) (s3L p1 p2 q1 q2 n1 n2) o1 o2) = false → decide (0 < cmpV (addH p1 p2 (addH q1 q2 n1 n2) (addL q1 q2 n1 n2)) (addL p1 p2 (addH q1 q2 n1 n2) (addL q1 q2 n1 n2)) o1 o2) = false) := by
  have e1 := add_sv ha
  have e2 := s3_iff.1 hs
  have hb : addB p1 p2 (addH q1 q2 n1 n2) (addL q1 q2 n1 n2) = true := (addB_iff _ _ _ _).2 (by omega)
  refine ⟨hb, fun h => ?_⟩
  have e3 := add_sv hb
  have e4 := s3_sv hs
  obtain ⟨u1, u2⟩ := add_u h5 h6 h7 h8
  obtain ⟨u3, u4⟩ := add_u h3 h4 u1 u2
  have hu := s3_u h3 h4 h5 h6 h7 h8
  have hn : ¬ 0 < cmpV (s3H p1 p2 q1 q2 n1 n2) (s3L p1 p2 q1 q2 n1 n2) o1 o2 := by simpa using h
  rw [cmp_pos hu.2 h2] at hn
  have : ¬ 0 < cmpV (addH p1 p2 (addH q1 q2 n1 n2) (addL q1 q2 n1 n2)) (addL p1 p2 (addH q1 q2 n1 n2) (addL q1 q2 n1 n2)) o1 o2 := by
    rw [cmp_pos u4 h2]
    omega
  simpa using this
theorem fl_any {f : Int} (h : 0 ≤ f ∧ f < 65536) (b : Bool) : (bits .andNot .u16 (bits .xor .u16 (if b = true then bits .or .u16 f 16 else f) f) 16 == 0) = true := by
  cases b
  · exact fl_same h
  · exact fl_or h
theorem wd_if {c : Bool} {a : Int} (h : Wd a) : Wd (if c = true then a else 0) := by
  split
  · exact h
  · exact Wd0
end Go.Proofs.Ytpbnakoimlmhnaa
