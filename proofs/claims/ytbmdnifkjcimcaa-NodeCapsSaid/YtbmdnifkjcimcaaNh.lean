/-
  The statements' example (fixed), walked.
-/
import Derived.Test.YtbmdnifkjcimcaaNg
namespace Go.Proofs.Ytbmdnifkjcimcaa
set_option linter.unusedVariables false
set_option linter.unusedSimpArgs false
open Go.RowKit

def fxK (i _ : Nat) : Int := (i : Int) + 1
def fxV (i _ : Nat) : Int := (i : Int) + 7
theorem fx_right : rightB ⟨true, 2, fun _ => 1, fxK, 2, fun _ => 1, fxV, 0, fun _ => 0⟩ ((1 : Nat) : Int) ((1 : Nat) : Int) = true := by decide +kernel
theorem fx_body : strF (leafF 1 1 2 fxK fxV) 6 = { data := #[0, 2, 1, 7, 2, 8] } := by decide +kernel
theorem fx_caps : capL 16 88 = 4 ∧ capI 16 88 = 25 := by decide
theorem fx_rows {w : World} {g g0 g1 : Nat} {R : Nat → Nat → Int} {a b : Int} (h : Blk w g 29 #[.slice (some ⟨g0, 0, none⟩) 1 1, .slice (some ⟨g1, 0, none⟩) 1 1]) (h0 : Blk w g0 5 #[.int .u8 a]) (h1 : Blk w g1 5 #[.int .u8 b]) (e0 : R 0 0 = a) (e1 : R 1 0 = b) : RsIs w (some ⟨g, 0, none⟩) 2 (fun _ => 1) R := by
  refine ⟨fun i => some ⟨if i = 0 then g0 else g1, 0, none⟩, fun _ => 1, fun _ => ⟨g, 0, rfl, h.lt, fun j hj => ?_⟩, fun i hi => ⟨Nat.le_refl _, by simp [maxLen], fun _ => ⟨_, 0, rfl, ?_, fun j hj => ?_⟩⟩⟩
  · rw [Nat.zero_add, h.cell j]
    rcases (by omega : j = 0 ∨ j = 1) with rfl | rfl <;> rfl
  · rcases (by omega : i = 0 ∨ i = 1) with rfl | rfl
    · exact h0.lt
    · exact h1.lt
  · have hj' : j < 1 := hj
    obtain rfl : j = 0 := by omega
    rcases (by omega : i = 0 ∨ i = 1) with rfl | rfl
    · rw [Nat.zero_add]; exact (h0.cell 0).trans (by rw [← e0]; rfl)
    · rw [Nat.zero_add]; exact (h1.cell 0).trans (by rw [← e1]; rfl)
set_option maxRecDepth 8000 in
set_option maxHeartbeats 4000000 in
theorem nfixed_any (w : World) : Calls Try.prog 9 #[] w fun r w' => r = .returned (.bool true) ∧ Below w.heap.size w w' := by
  have HC := fun w => caps_any 16 88 w
  rw [fx_caps.1, fx_caps.2] at HC
  replace HC := Lib.hid HC
  have HW : ∀ KA VA W, NdIs W KA VA none ⟨true, 2, fun _ => 1, fxK, 2, fun _ => 1, fxV, 0, fun _ => 0⟩ → Calls Try.prog 17 #[.agg #[.bool true, .slice KA 2 2, .slice VA 2 2, .slice none 0 0], .int .i64 1, .int .i64 1] W fun r w' => ∃ A c, r = .returned (.tuple #[.int .u8 3, .slice A 6 c, .int .i64 0]) ∧ 6 ≤ c ∧ c ≤ maxLen ∧ SlIs w' A 6 (yV (leafF 1 1 2 fxK fxV)) ∧ Below W.heap.size W w' :=
    fun KA VA W hN => write_leaf KA VA none 2 2 2 2 0 0 (fun _ => 1) (fun _ => 1) fxK fxV (fun _ => 0) 1 1 W hN fx_right
  replace HW := Lib.hid HW
  have HB := fx_body
  generalize leafF 1 1 2 fxK fxV = D at *
  replace HB := Lib.hid HB
  go_enter Try.func9, Try.ntmps9
  go_wp2_with fail
  refine (HC.out _).mono ?_
  rintro e1 w1 ⟨rfl, hb1⟩
  go_wp2_with fail
  refine (HW.out _ _ _ ⟨fx_rows (a := 1) (b := 2) (g0 := w1.heap.size) (g1 := w1.heap.size + 1) (by (repeat (first | with_reducible assumption | (with_reducible refine Blk.new' ?_; first | with_reducible rfl | (simp; done)) | with_reducible refine Blk.alloc ?_ _ | with_reducible refine Blk.grow ?_ _ | with_reducible refine Blk.drew ?_ | with_reducible refine Blk.drewN ?_ _ | (with_reducible refine Blk.far ?_ (by first | (dsimp only; omega) | (simp; omega)) _) | (with_reducible apply Blk.two) | (with_reducible refine Blk.set' ?_ _ _ ?_) | (with_reducible rfl) | rfl))) (by (repeat (first | with_reducible assumption | (with_reducible refine Blk.new' ?_; first | with_reducible rfl | (simp; done)) | with_reducible refine Blk.alloc ?_ _ | with_reducible refine Blk.grow ?_ _ | with_reducible refine Blk.drew ?_ | with_reducible refine Blk.drewN ?_ _ | (with_reducible refine Blk.far ?_ (by first | (dsimp only; omega) | (simp; omega)) _) | (with_reducible apply Blk.two) | (with_reducible refine Blk.set' ?_ _ _ ?_) | (with_reducible rfl) | rfl))) (by (repeat (first | with_reducible assumption | (with_reducible refine Blk.new' ?_; first | with_reducible rfl | (simp; done)) | with_reducible refine Blk.alloc ?_ _ | with_reducible refine Blk.grow ?_ _ | with_reducible refine Blk.drew ?_ | with_reducible refine Blk.drewN ?_ _ | (with_reducible refine Blk.far ?_ (by first | (dsimp only; omega) | (simp; omega)) _) | (with_reducible apply Blk.two) | (with_reducible refine Blk.set' ?_ _ _ ?_) | (with_reducible rfl) | rfl))) rfl rfl, fx_rows (a := 7) (b := 8) (g0 := w1.heap.size + 1 + 1 + 1) (g1 := w1.heap.size + 1 + 1 + 1 + 1) (by (repeat (first | with_reducible assumption | (with_reducible refine Blk.new' ?_; first | with_reducible rfl | (simp; done)) | with_reducible refine Blk.alloc ?_ _ | with_reducible refine Blk.grow ?_ _ | with_reducible refine Blk.drew ?_ | with_reducible refine Blk.drewN ?_ _ | (with_reducible refine Blk.far ?_ (by first | (dsimp only; omega) | (simp; omega)) _) | (with_reducible apply Blk.two) | (with_reducible refine Blk.set' ?_ _ _ ?_) | (with_reducible rfl) | rfl))) (by (repeat (first | with_reducible assumption | (with_reducible refine Blk.new' ?_; first | with_reducible rfl | (simp; done)) | with_reducible refine Blk.alloc ?_ _ | with_reducible refine Blk.grow ?_ _ | with_reducible refine Blk.drew ?_ | with_reducible refine Blk.drewN ?_ _ | (with_reducible refine Blk.far ?_ (by first | (dsimp only; omega) | (simp; omega)) _) | (with_reducible apply Blk.two) | (with_reducible refine Blk.set' ?_ _ _ ?_) | (with_reducible rfl) | rfl))) (by (repeat (first | with_reducible assumption | (with_reducible refine Blk.new' ?_; first | with_reducible rfl | (simp; done)) | with_reducible refine Blk.alloc ?_ _ | with_reducible refine Blk.grow ?_ _ | with_reducible refine Blk.drew ?_ | with_reducible refine Blk.drewN ?_ _ | (with_reducible refine Blk.far ?_ (by first | (dsimp only; omega) | (simp; omega)) _) | (with_reducible apply Blk.two) | (with_reducible refine Blk.set' ?_ _ _ ?_) | (with_reducible rfl) | rfl))) rfl rfl, SlIs.nil, by simp, by simp, by simp⟩).mono ?_
  rintro e2 w2 ⟨A, c, rfl, _, _, hs, hb2⟩
  have q := conv8 hs c
  rw [HB.out] at q
  clear hs
  have hW : Below w.heap.size w w2 := bel_eld (w := w) (X := _) (by (repeat (first | exact Below.refl _ _ | assumption | refine below_drewN ?_ _ | refine bel_grow ?_ _ | refine Below.drew ?_ | refine bel_alloc ?_ _ | refine bel_set ?_ (by first | exact Nat.le_refl _ | (simp; done) | (simp; omega) | omega) _ | refine bel_trans ?_ (by assumption)))) hb2
  clear hb2
  go_wp2_with fail
  go_ret
  exact ⟨rfl, hW⟩
end Go.Proofs.Ytbmdnifkjcimcaa
