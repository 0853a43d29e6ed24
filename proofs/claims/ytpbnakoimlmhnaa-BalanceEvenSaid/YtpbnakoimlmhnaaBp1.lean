/-
  Plain laws of numbers of two words, for layers 18 to 20.
-/
import Derived.Test.YtpbnakoimlmhnaaBa
import Derived.Test.YtpbnakoimlmhnaaWideP2
import Derived.Test.YtpbnakoimlmhnaaBp0
namespace Go.Proofs.Ytpbnakoimlmhnaa
set_option linter.unusedVariables false
set_option linter.unusedSimpArgs false
open Go.RowKit

theorem add_sv {a b c d : Int} (h : addB a b c d = true) : V (addH a b c d) (addL a b c d) = V a b + V c d := by
  rw [addB_V] at h
  have h' : V a b + V c d < pw 16 := by simpa using h
  rw [addH_V h', addL_V h', V_of]
theorem sub_sv {a b c d : Int} (hb : Wd b) (hd : Wd d) (h : subB a b c d = true) : V (subH a b c d) (subL a b c d) = V a b - V c d := by
  rw [subB_V] at h
  have h' : V c d ≤ V a b := by simpa using h
  rw [subH_V hb hd h', subL_V h', V_of]
theorem sub_no {a b c d : Int} (h : subB a b c d = false) : subH a b c d = 0 ∧ subL a b c d = 0 := by
  unfold subH subL; rw [h]; exact ⟨rfl, rfl⟩
theorem add_no {a b c d : Int} (h : addB a b c d = false) : addH a b c d = 0 ∧ addL a b c d = 0 := by
  unfold addH addL; rw [h]; exact ⟨rfl, rfl⟩
theorem addB_iff (a b c d : Int) : addB a b c d = true ↔ V a b + V c d < pw 16 := by rw [addB_V]; simp
theorem subB_iff (a b c d : Int) : subB a b c d = true ↔ V c d ≤ V a b := by rw [subB_V]; simp
theorem V_inj {a b c d : Int} (ha : Wd a) (hb : Wd b) (hc : Wd c) (hd : Wd d) (h : V a b = V c d) : a = c ∧ b = d := by
  unfold V Wd at *; omega
theorem V_00 : V 0 0 = 0 := by decide
theorem Wd0 : Wd 0 := by unfold Wd; decide
theorem le_sv {o1 o2 p1 p2 q1 q2 : Int} (h1 : Wd o1) (h2 : Wd o2) (h3 : Wd p1) (h4 : Wd p2) (h5 : Wd q1) (h6 : Wd q2) : V (leH o1 o2 p1 p2 q1 q2) (leL o1 o2 p1 p2 q1 q2) = if V p1 p2 + V q1 q2 ≤ V o1 o2 then V o1 o2 - (V p1 p2 + V q1 q2) else 0 := by
  obtain ⟨g1, g2⟩ := add_u h3 h4 h5 h6
  have b1 := V_lo h1 h2
  unfold leH leL
  cases ha : addB p1 p2 q1 q2
  · have hn : ¬ V p1 p2 + V q1 q2 < pw 16 := by intro hh; rw [(addB_iff _ _ _ _).2 hh] at ha; cases ha
    rw [if_neg (show ¬ V p1 p2 + V q1 q2 ≤ V o1 o2 by omega)]
    simp only [Bool.false_eq_true, if_false]
    exact V_00
  · have hv := add_sv ha
    simp only [if_true]
    cases hs : subB o1 o2 (addH p1 p2 q1 q2) (addL p1 p2 q1 q2)
    · have hn : ¬ V (addH p1 p2 q1 q2) (addL p1 p2 q1 q2) ≤ V o1 o2 := by intro hh; rw [(subB_iff _ _ _ _).2 hh] at hs; cases hs
      rw [hv] at hn
      rw [(sub_no hs).1, (sub_no hs).2, V_00, if_neg hn]
    · have hy := (subB_iff _ _ _ _).1 hs
      rw [hv] at hy
      rw [sub_sv h2 g2 hs, hv, if_pos hy]
theorem ls_sv {a b c d : Int} (h2 : Wd b) (h4 : Wd d) : V (lsH a b c d) (lsL a b c d) ≤ V a b ∧ V (lsH a b c d) (lsL a b c d) ≤ V c d ∧ (V (lsH a b c d) (lsL a b c d) = V a b ∨ V (lsH a b c d) (lsL a b c d) = V c d) := by
  unfold lsH lsL
  split
  · rename_i h
    rw [cmp_lt h4 h2] at h
    omega
  · rename_i h
    rw [cmp_lt h4 h2] at h
    omega
theorem cmp_pos {a b c d : Int} (hb : Wd b) (hd : Wd d) : (0 < cmpV a b c d) ↔ V c d < V a b := by
  rw [cmpV_V hb hd]
  unfold cmpI
  split
  · constructor
    · intro h; exact absurd h (by decide)
    · intro h; omega
  · split
    · constructor
      · intro _; assumption
      · intro _; decide
    · constructor
      · intro h; exact absurd h (by decide)
      · intro h; omega
theorem s3_iff {a b c d e f : Int} : s3B a b c d e f = true ↔ V a b + V c d + V e f < pw 16 := by
  show sumB (thr3 a c e) (thr3 b d f) 3 = true ↔ _
  unfold sumB
  rw [show tot (thr3 a c e) (thr3 b d f) 3 = 0 + V a b + V c d + V e f from rfl, Int.zero_add]
  simp
theorem s3_sv {a b c d e f : Int} (h : s3B a b c d e f = true) : V (s3H a b c d e f) (s3L a b c d e f) = V a b + V c d + V e f := by
  have e0 : tot (thr3 a c e) (thr3 b d f) 3 = V a b + V c d + V e f := by rw [show tot (thr3 a c e) (thr3 b d f) 3 = 0 + V a b + V c d + V e f from rfl, Int.zero_add]
  have h' : sumB (thr3 a c e) (thr3 b d f) 3 = true := h
  unfold s3H s3L sumH sumL
  rw [h', if_pos rfl, if_pos rfl, V_of, e0]
/-- the verdict where there is room -/
theorem room_0 {pen o1 o2 f1 f2 x1 x2 : Bool} : roomV pen o1 o2 f1 f2 x1 x2 = 0 ↔ (o1 = false ∧ o2 = false ∧ f1 = false ∧ f2 = false ∧ x1 = false ∧ x2 = false) := by
  unfold roomV
  cases pen <;> cases o1 <;> cases o2 <;> cases f1 <;> cases f2 <;> cases x1 <;> cases x2 <;> decide
theorem room_42 {pen o1 o2 f1 f2 x1 x2 : Bool} (h : x1 = false) : roomV pen o1 o2 f1 f2 x1 x2 ≠ 42 := by
  subst h
  unfold roomV
  cases pen <;> cases o1 <;> cases o2 <;> cases f1 <;> cases f2 <;> cases x2 <;> decide
theorem room_43 {pen o1 o2 f1 f2 x1 x2 : Bool} (h : x2 = false) : roomV pen o1 o2 f1 f2 x1 x2 ≠ 43 := by
  subst h
  unfold roomV
  cases pen <;> cases o1 <;> cases o2 <;> cases f1 <;> cases f2 <;> cases x1 <;> decide
/-- flags of 16 bits -/
theorem nat_orx (x : Nat) (hx : x < 65536) : ((x ||| 16) ^^^ x) &&& 65519 = 0 :=
  of_decide_eq_true (all16 (fun x => decide (((x ||| 16) ^^^ x) &&& 65519 = 0)) (by kernel_rfl) x hx)
theorem fl_or {f : Int} (h : 0 ≤ f ∧ f < 65536) : (bits .andNot .u16 (bits .xor .u16 (bits .or .u16 f 16) f) 16 == 0) = true := by
  have hlt : f.toNat < 65536 := by omega
  have b1 : f.toNat ||| 16 < 65536 := Nat.or_lt_two_pow (n := 16) (by omega) (by omega)
  have b2 : (f.toNat ||| 16) ^^^ f.toNat < 65536 := Nat.xor_lt_two_pow (n := 16) (by omega) (by omega)
  have ho := nat_orx f.toNat hlt
  rw [u16_or f 16 h.1 h.2 (by omega) (by omega), show (16 : Int).toNat = 16 from rfl]
  generalize f.toNat ||| 16 = y at *
  rw [u16_xor (y : Int) f (by omega) (by omega) h.1 h.2, Int.toNat_natCast]
  generalize y ^^^ f.toNat = z at *
  rw [u16_andNot (z : Int) 16 (by omega) (by omega) (by omega) (by omega), Int.toNat_natCast, show 65535 - (16 : Int).toNat = 65519 from rfl, ho]
  rfl
theorem nat_same (x : Nat) : x ^^^ x = 0 := Nat.xor_self x
theorem fl_same {f : Int} (h : 0 ≤ f ∧ f < 65536) : (bits .andNot .u16 (bits .xor .u16 f f) 16 == 0) = true := by
  rw [u16_xor f f h.1 h.2 h.1 h.2, Nat.xor_self]
  rfl
end Go.Proofs.Ytpbnakoimlmhnaa
