/-
  Plain values of layer 18.
-/
import Derived.Test.YtpbnakoimlmhnaaWd
import Derived.Test.YtpbnakoimlmhnaaBits
namespace Go.Proofs.Ytpbnakoimlmhnaa
set_option linter.unusedVariables false
set_option linter.unusedSimpArgs false
open Go.RowKit

/-- what a side may still be moved by -/
def leH (o1 o2 p1 p2 q1 q2 : Int) : Int := if addB p1 p2 q1 q2 then subH o1 o2 (addH p1 p2 q1 q2) (addL p1 p2 q1 q2) else 0
def leL (o1 o2 p1 p2 q1 q2 : Int) : Int := if addB p1 p2 q1 q2 then subL o1 o2 (addH p1 p2 q1 q2) (addL p1 p2 q1 q2) else 0
/-- the lesser one of two -/
def lsH (a b c d : Int) : Int := if cmpV c d a b < 0 then c else a
def lsL (a b c d : Int) : Int := if cmpV c d a b < 0 then d else b
def two (x y : Int) (i : Nat) : Int := if i = 0 then x else y
def thr3 (x y z : Int) (i : Nat) : Int := if i = 0 then x else if i = 1 then y else z
theorem le_u {o1 o2 p1 p2 q1 q2 : Int} (h1 : Wd o1) (h2 : Wd o2) (h3 : Wd p1) (h4 : Wd p2) (h5 : Wd q1) (h6 : Wd q2) : Wd (leH o1 o2 p1 p2 q1 q2) ∧ Wd (leL o1 o2 p1 p2 q1 q2) := by
  unfold leH leL
  have hz : Wd 0 := by unfold Wd; omega
  obtain ⟨g1, g2⟩ := add_u h3 h4 h5 h6
  obtain ⟨g3, g4⟩ := sub_u h1 h2 g1 g2
  cases addB p1 p2 q1 q2
  · exact ⟨hz, hz⟩
  · exact ⟨g3, g4⟩
theorem ls_u {a b c d : Int} (h1 : Wd a) (h2 : Wd b) (h3 : Wd c) (h4 : Wd d) : Wd (lsH a b c d) ∧ Wd (lsL a b c d) := by
  unfold lsH lsL
  split
  · exact ⟨h3, h4⟩
  · exact ⟨h1, h2⟩
theorem lst_two {a b c d : Int} (h1 : Wd a) (h2 : Wd b) (h4 : Wd d) : lst (two a c) (two b d) 2 = (lsH a b c d, lsL a b c d) := by
  have e1 : lst (two a c) (two b d) 1 = (a, b) := by
    show (if cmpV a b 18446744073709551615 18446744073709551615 < 0 then (a, b) else (18446744073709551615, 18446744073709551615)) = (a, b)
    split
    · rfl
    · rename_i h
      rw [cmp_lt h2 (by unfold Wd; omega)] at h
      obtain ⟨g1, g2⟩ := V_top h1 h2 (by omega)
      rw [g1, g2]
  show (if cmpV (two a c 1) (two b d 1) (lst (two a c) (two b d) 1).1 (lst (two a c) (two b d) 1).2 < 0 then (two a c 1, two b d 1) else lst (two a c) (two b d) 1) = _
  rw [e1]
  show (if cmpV c d a b < 0 then (c, d) else (a, b)) = _
  unfold lsH lsL
  split <;> rfl
theorem slis_two {w : World} {g : Nat} {t : TypeId} {a b c d : Int} (h : Blk w g t #[.int .u64 a, .int .u64 b, .int .u64 c, .int .u64 d]) : SlIs w (some ⟨g, 0, none⟩) (2 * 2) (pV (two a c) (two b d)) := fun _ =>
  ⟨g, 0, rfl, h.lt, fun j hj => by
    rw [Nat.zero_add, h.cell]
    rcases (by omega : j = 0 ∨ j = 1 ∨ j = 2 ∨ j = 3) with rfl | rfl | rfl | rfl <;> rfl⟩
theorem slis_thr {w : World} {g : Nat} {t : TypeId} {a b c d e f : Int} (h : Blk w g t #[.int .u64 a, .int .u64 b, .int .u64 c, .int .u64 d, .int .u64 e, .int .u64 f]) : SlIs w (some ⟨g, 0, none⟩) (3 * 2) (pV (thr3 a c e) (thr3 b d f)) := fun _ =>
  ⟨g, 0, rfl, h.lt, fun j hj => by
    rw [Nat.zero_add, h.cell]
    rcases (by omega : j = 0 ∨ j = 1 ∨ j = 2 ∨ j = 3 ∨ j = 4 ∨ j = 5) with rfl | rfl | rfl | rfl | rfl | rfl <;> rfl⟩
theorem least_two {g : Nat} {t : TypeId} {a b c d : Int} (h1 : Wd a) (h2 : Wd b) (h4 : Wd d) (w : World) (h : Blk w g t #[.int .u64 a, .int .u64 b, .int .u64 c, .int .u64 d]) :
    Calls Try.prog 48 #[.slice (some ⟨g, 0, none⟩) 2 2] w fun r w' => r = .returned (.agg #[.int .u64 (lsH a b c d), .int .u64 (lsL a b c d)]) ∧ Below w.heap.size w w' := by
  have h := least_any (some ⟨g, 0, none⟩) 2 2 (two a c) (two b d) (by omega) w (slis_two h)
  rw [lst_two h1 h2 h4] at h
  exact h
/-- the sum of three -/
def s3B (a b c d e f : Int) : Bool := sumB (thr3 a c e) (thr3 b d f) 3
def s3H (a b c d e f : Int) : Int := sumH (thr3 a c e) (thr3 b d f) 3
def s3L (a b c d e f : Int) : Int := sumL (thr3 a c e) (thr3 b d f) 3
theorem thr_wd {a b c d e f : Int} (h1 : Wd a) (h2 : Wd b) (h3 : Wd c) (h4 : Wd d) (h5 : Wd e) (h6 : Wd f) : ∀ i, i < 3 → Wd (thr3 a c e i) ∧ Wd (thr3 b d f i) := by
  intro i hi
  rcases (by omega : i = 0 ∨ i = 1 ∨ i = 2) with rfl | rfl | rfl
  · exact ⟨h1, h2⟩
  · exact ⟨h3, h4⟩
  · exact ⟨h5, h6⟩
theorem sum_thr {g : Nat} {t : TypeId} {a b c d e f : Int} (h1 : Wd a) (h2 : Wd b) (h3 : Wd c) (h4 : Wd d) (h5 : Wd e) (h6 : Wd f) (w : World) (h : Blk w g t #[.int .u64 a, .int .u64 b, .int .u64 c, .int .u64 d, .int .u64 e, .int .u64 f]) :
    Calls Try.prog 79 #[.slice (some ⟨g, 0, none⟩) 3 3] w fun r w' => r = .returned (.tuple #[.agg #[.int .u64 (s3H a b c d e f), .int .u64 (s3L a b c d e f)], .bool (s3B a b c d e f)]) ∧ Below w.heap.size w w' :=
  sum_any (some ⟨g, 0, none⟩) 3 3 (thr3 a c e) (thr3 b d f) (by omega) (thr_wd h1 h2 h3 h4 h5 h6) w (slis_thr h)
theorem refsum_thr {g : Nat} {t : TypeId} {a b c d e f : Int} (h1 : Wd a) (h2 : Wd b) (h3 : Wd c) (h4 : Wd d) (h5 : Wd e) (h6 : Wd f) (w : World) (h : Blk w g t #[.int .u64 a, .int .u64 b, .int .u64 c, .int .u64 d, .int .u64 e, .int .u64 f]) :
    Calls Try.prog 56 #[.slice (some ⟨g, 0, none⟩) 3 3] w fun r w' => r = .returned (.tuple #[.agg #[.int .u64 (s3H a b c d e f), .int .u64 (s3L a b c d e f)], .bool (s3B a b c d e f)]) ∧ Below w.heap.size w w' :=
  refsum_any (some ⟨g, 0, none⟩) 3 3 (thr3 a c e) (thr3 b d f) (by omega) (thr_wd h1 h2 h3 h4 h5 h6) w (slis_thr h)
/-- whether there is room: the verdict's number -/
def roomV (pen o1 o2 f1 f2 x1 x2 : Bool) : Int := if o1 then (if pen then 35 else 37) else if o2 then (if pen then 36 else 38) else if f1 then 39 else if f2 then 40 else if x1 then 42 else if x2 then 43 else 0
end Go.Proofs.Ytpbnakoimlmhnaa
