/-
  Plain laws of what is asked for, of room and of moves.
-/
import Derived.Test.YtpbnakoimlmhnaaBp1
namespace Go.Proofs.Ytpbnakoimlmhnaa
set_option linter.unusedVariables false
set_option linter.unusedSimpArgs false
open Go.RowKit

theorem ask1_le {b : Bool} {m1 m2 d1 d2 : Int} (h2 : Wd m2) (h4 : Wd d2) : V (ask1H b m1 m2 d1 d2) (ask1L b m1 m2 d1 d2) ≤ V m1 m2 ∧ (b = true → V (ask1H b m1 m2 d1 d2) (ask1L b m1 m2 d1 d2) ≤ V d1 d2) := by
  unfold ask1H ask1L
  cases b
  · exact ⟨Int.le_refl _, fun h => by cases h⟩
  · exact ⟨(ls_sv h2 h4).1, fun _ => (ls_sv h2 h4).2.1⟩
theorem ask_le {b16 b32 : Bool} {m1 m2 d1 d2 c1 c2 : Int} (h1 : Wd m1) (h2 : Wd m2) (h3 : Wd d1) (h4 : Wd d2) (h6 : Wd c2) : V (askH b16 b32 m1 m2 d1 d2 c1 c2) (askL b16 b32 m1 m2 d1 d2 c1 c2) ≤ V m1 m2 ∧ (b16 = true → V (askH b16 b32 m1 m2 d1 d2 c1 c2) (askL b16 b32 m1 m2 d1 d2 c1 c2) ≤ V d1 d2) ∧ (b32 = true → V (askH b16 b32 m1 m2 d1 d2 c1 c2) (askL b16 b32 m1 m2 d1 d2 c1 c2) ≤ V c1 c2) := by
  have k := ask1_le (b := b16) (m1 := m1) (m2 := m2) (d1 := d1) (d2 := d2) h2 h4
  have u := ask1_u (b := b16) h1 h2 h3 h4
  have k2 := ask1_le (b := b32) (m1 := ask1H b16 m1 m2 d1 d2) (m2 := ask1L b16 m1 m2 d1 d2) (d1 := c1) (d2 := c2) u.2 h6
  unfold askH askL
  exact ⟨Int.le_trans k2.1 k.1, fun h => Int.le_trans k2.1 (k.2 h), k2.2⟩
/-- what is balanced never exceeds what it is balanced by -/
theorem room_left {o1 o2 p1 p2 q1 q2 n1 n2 : Int} (h1 : Wd o1) (h2 : Wd o2) (h3 : Wd p1) (h4 : Wd p2) (h5 : Wd q1) (h6 : Wd q2) (h7 : Wd n1) (h8 : Wd n2) (hle : V n1 n2 ≤ V (leH o1 o2 p1 p2 q1 q2) (leL o1 o2 p1 p2 q1 q2)) (hp : 0 < V n1 n2) : decide (0 < cmpV (s3H p1 p2 q1 q2 n1 n2) (s3L p1 p2 q1 q2 n1 n2) o1 o2) = false := by
  rw [le_sv h1 h2 h3 h4 h5 h6] at hle
  have b1 := V_lo h1 h2
  have hb : s3B p1 p2 q1 q2 n1 n2 = true := s3_iff.2 (by split at hle <;> omega)
  have hs := s3_sv hb
  have hu := s3_u h3 h4 h5 h6 h7 h8
  have hc := cmp_pos (a := s3H p1 p2 q1 q2 n1 n2) (c := o1) hu.2 h2
  rw [hs] at hc
  have hn : ¬ 0 < cmpV (s3H p1 p2 q1 q2 n1 n2) (s3L p1 p2 q1 q2 n1 n2) o1 o2 := by
    intro h
    have := hc.1 h
    split at hle <;> omega
  simpa using hn
/-- where a total fits: the sum of the moved column and the other one -/
theorem tot_one {p1 p2 q1 q2 n1 n2 o1 o2 : Int} (h3 : Wd p1) (h4 : Wd p2) (h5 : Wd q1) (h6 : Wd q2) (h7 : Wd n1) (h8 : Wd n2) (h2 : Wd o2) (hs : s3B p1 p2 q1 q2 n1 n2 = true) (ha : addB p1 p2 n1 n2 = true) : addB (addH p1 p2 n1 n2) (addL p1 p2 n1 n2) q1 q2 = true ∧ (decide (0 < cmpV (s3H p1 p2 q1 q2 n1 n2) (s3L p1 p2 q1 q2 n1 n2) o1 o2) = false → decide (0 < cmpV (addH (addH p1 p2 n1 n2) (addL p1 p2 n1 n2) q1 q2) (addL (addH p1 p2 n1 n2) (addL p1 p2 n1 n2) q1 q2) o1 o2) = false) := by
  have e1 := add_sv ha
  have e2 := s3_iff.1 hs
  have hb : addB (addH p1 p2 n1 n2) (addL p1 p2 n1 n2) q1 q2 = true := (addB_iff _ _ _ _).2 (by omega)
  refine ⟨hb, fun h => ?_⟩
  have e3 := add_sv hb
  have e4 := s3_sv hs
  obtain ⟨u1, u2⟩ := add_u h3 h4 h7 h8
  obtain ⟨u3, u4⟩ := add_u u1 u2 h5 h6
  have hu := s3_u h3 h4 h5 h6 h7 h8
  have hn : ¬ 0 < cmpV (s3H p1 p2 q1 q2 n1 n2) (s3L p1 p2 q1 q2 n1 n2) o1 o2 := by simpa using h
  rw [cmp_pos hu.2 h2] at hn
  have : ¬ 0 < cmpV (addH (addH p1 p2 n1 n2) (addL p1 p2 n1 n2) q1 q2) (addL (addH p1 p2 n1 n2) (addL p1 p2 n1 n2) q1 q2) o1 o2 := by
    rw [cmp_pos u4 h2]
    omega
  simpa using this
theorem tot_two {p1 p2 q1 q2 n1 n2 o1 o2 : Int} (h3 : Wd p1) (h4 : Wd p2) (h5 : Wd q1) (h6 : Wd q2) (h7 : Wd n1) (h8 : Wd n2) (h2 : Wd o2) (hs : s3B p1 p2 q1 q2 n1 n2 = true) (ha : addB q1 q2 n1 n2 = true) : addB p1 p2 (addH q1 q2 n1 n2) (addL q1 q2 n1 n2) = true ∧ (decide (0 < cmpV (s3H p1 p2 q1 q2 n1 n2) (s3L p1 p2 q1 q2 n1 n2) o1 o2) = false → decide (0 < cmpV (addH p1 p2 (addH q1 q2 n1 n2) (addL q1 q2 n1 n2)) (addL p1 p2 (addH q1 q2 n1 n2) (addL q1 q2 n1 n2)) o1 o2) = false) := by
  have e1 := add_sv ha
  have e2 := s3_iff.1 hs
  have hb : addB p1 p2 (addH q1 q2 n1 n2) (addL q1 q2 n1 n2) = true := (addB_iff _ _ _ _).2 (by omega)
  refine ⟨hb, fun h => ?_⟩
  have e3 := add_sv hb
  have e4 := s3_sv hs
  obtain ⟨u1, u2⟩ := add_u h5 h6 h7 h8
  obtain ⟨u3, u4⟩ := add_u h3 h4 u1 u2
  have hu := s3_u h3 h4 h5 h6 h7 h8
  have hn : ¬ 0 < cmpV (s3H p1 p2 q1 q2 n1 n2) (s3L p1 p2 q1 q2 n1 n2) o1 o2 := by simpa using h
  rw [cmp_pos hu.2 h2] at hn
  have : ¬ 0 < cmpV (addH p1 p2 (addH q1 q2 n1 n2) (addL q1 q2 n1 n2)) (addL p1 p2 (addH q1 q2 n1 n2) (addL q1 q2 n1 n2)) o1 o2 := by
    rw [cmp_pos u4 h2]
    omega
  simpa using this
theorem fl_any {f : Int} (h : 0 ≤ f ∧ f < 65536) (b : Bool) : (bits .andNot .u16 (bits .xor .u16 (if b = true then bits .or .u16 f 16 else f) f) 16 == 0) = true := by
  cases b
  · exact fl_same h
  · exact fl_or h
theorem wd_if {c : Bool} {a : Int} (h : Wd a) : Wd (if c = true then a else 0) := by
  split
  · exact h
  · exact Wd0
end Go.Proofs.Ytpbnakoimlmhnaa
