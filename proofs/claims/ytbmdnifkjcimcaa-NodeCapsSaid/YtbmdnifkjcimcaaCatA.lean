/-
  slices.Grow from nothing, slices.Concat of two, for bytes.
-/
import Derived.Test.YtbmdnifkjcimcaaByS
import Derived.Lib.AppendZeros
namespace Go.Proofs.Ytbmdnifkjcimcaa
set_option linter.unusedVariables false
set_option linter.unusedSimpArgs false
open Go.RowKit

set_option maxRecDepth 8000 in
set_option maxHeartbeats 1000000 in
theorem grow_nil (n : Nat) (nI : Int) (hI : nI = n) (h0 : 0 < n) (hn : n ≤ 1000000) (d : Nat → Int) (w : World) : Calls Try.prog 43 #[.slice none 0 0, .int .i64 nI] w fun r w' =>
      ∃ v, r = .returned v ∧ OwnB w' w.heap.size v 0 d ∧ Below w.heap.size w w' := by
  subst hI
  obtain ⟨i0, hi0, hz0, hz1, hz2⟩ := info_parts info_u8
  have hr : ∀ ty, (Builtin.append_ #[29, 3] ty #[.slice none 0 0, .int .i64 n]).run Try.prog w = .ok (.slice (some ⟨w.heap.size, 0, none⟩) n (grownCap w n 0 5)) (w.drew.alloc (.cells (Builtin.zeroCells (Value.int .u8 0).cells n ++ Builtin.zeroCells (Value.int .u8 0).cells (grownCap w n 0 5 - n)) 5)) := fun ty =>
    Lib.run_append_nil_zeros w 29 3 ty 5 i0 _ .i64 .i64 Try.underlying29 Try.underlying3 hi0 hz0 n h0 (by rw [hz1]; omega) (by omega) (by rw [hz2]; omega)
  have hc1 : n ≤ grownCap w n 0 5 := grownCap_ge w n 0 _
  have hc2 : grownCap w n 0 5 ≤ maxLen := grownCap_le_maxLen w n 0 _ (by unfold maxLen; omega)
  have hsz : (Builtin.zeroCells (Value.int .u8 0).cells n ++ Builtin.zeroCells (Value.int .u8 0).cells (grownCap w n 0 5 - n)).size = grownCap w n 0 5 * 1 := by
    simp [Builtin.zeroCells, Value.cells]
    omega
  generalize grownCap w n 0 5 = G at *
  generalize (Builtin.zeroCells (Value.int .u8 0).cells n ++ Builtin.zeroCells (Value.int .u8 0).cells (G - n)) = cs at *
  have hp : OwnB (w.drew.alloc (.cells cs 5)) w.heap.size (.slice (some ⟨w.heap.size, 0, none⟩) 0 G) 0 d :=
    ⟨by simp [yL_len], .inr ⟨w.heap.size, G, cs, rfl, Nat.le_refl _, heap_alloc_new w.drew _, by omega, hc2, hsz, by simp; rfl⟩⟩
  have hb : Below w.heap.size w (w.drew.alloc (.cells cs 5)) := bel_alloc (Below.drew (Below.refl _ _)) _
  replace hp := Lib.hid hp
  replace hb := Lib.hid hb
  clear hsz hi0 hz0 hz1 hz2
  unfold maxLen at hc2
  have h1 : decide ((n : Int) < 0) = false := decide_eq_false (by omega)
  have h2 : decide ((n : Int) > 0) = true := decide_eq_true (by omega)
  go_enter Try.func43, Try.ntmps43
  go_wp2_with (at_builtin; refine Lib.wpList_append_run _ rfl _ _ _ _ rfl _ _ rfl rfl _ _ (hr _) ?_)
  go_ret
  exact ⟨_, rfl, hp.out, hb.out⟩
end Go.Proofs.Ytbmdnifkjcimcaa
