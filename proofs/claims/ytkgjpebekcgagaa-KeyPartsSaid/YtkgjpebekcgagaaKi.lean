/-
  The chapter's examples (layer 3), walked.
-/
import Derived.Test.YtkgjpebekcgagaaKh
namespace Go.Proofs.Ytkgjpebekcgagaa
set_option linter.unusedVariables false
set_option linter.unusedSimpArgs false
open Go.RowKit

def exa (j : Nat) : Int := if j = 0 then 1 else 255
theorem exa_lp : lp exa 2 = 1 := by decide
theorem exa_str : strF (nxt exa (lp exa 2)) 2 = { data := #[2, 0] } := by decide
theorem fil_str0 : strF (fil (fun _ => 7) 1 0) 3 = { data := #[7, 0, 0] } := by decide
theorem fil_str255 : strF (fil (fun _ => 7) 1 255) 3 = { data := #[7, 255, 255] } := by decide
theorem blk_slis {w : World} {g : Nat} {t : TypeId} {cs : Array Value} {n : Nat} {f : Nat → Value} (h : Blk w g t cs) (hn : ∀ j, j < n → cs[j]? = some (f j)) : SlIs w (some ⟨g, 0, none⟩) n f :=
  fun _ => ⟨g, 0, rfl, h.lt, fun j hj => by rw [Nat.zero_add, h.cell j, hn j hj]⟩

theorem next_ex1 (W : World) (g : Nat) (h : Blk W g 5 #[.int .u8 1, .int .u8 255]) : Calls Try.prog 8 #[.slice (some ⟨g, 0, none⟩) 2 2] W fun r w' =>
    ∃ A c, r = .returned (.tuple #[.slice A 2 c, .bool true]) ∧ SlIs w' A 2 (yV (nxt exa (lp exa 2))) ∧ Below W.heap.size W w' := by
  refine (next_yes (some ⟨g, 0, none⟩) 2 2 exa (by omega) (fun i => by unfold exa; split <;> omega) (by rw [exa_lp]; omega) W (blk_slis h (fun j hj => by
    rcases (by omega : j = 0 ∨ j = 1) with rfl | rfl <;> rfl))).mono ?_
  rintro r w' ⟨v, rfl, ho, hb⟩
  obtain ⟨A, c, rfl, hs⟩ := ho.slis
  exact ⟨A, c, rfl, hs, hb⟩
theorem next_ex2 (W : World) (g : Nat) (h : Blk W g 5 #[.int .u8 255, .int .u8 255]) : Calls Try.prog 8 #[.slice (some ⟨g, 0, none⟩) 2 2] W fun r w' =>
    r = .returned (.tuple #[.slice none 0 0, .bool false]) ∧ Below W.heap.size W w' :=
  next_no (some ⟨g, 0, none⟩) 2 2 (fun _ => 255) (by omega) (by omega) (fun i => by omega) (by decide) W (blk_slis h (fun j hj => by
    rcases (by omega : j = 0 ∨ j = 1) with rfl | rfl <;> rfl))
theorem low_ex (W : World) (g : Nat) (h : Blk W g 5 #[.int .u8 7]) : Calls Try.prog 12 #[.slice (some ⟨g, 0, none⟩) 1 1, .int .i64 3] W fun r w' =>
    ∃ A, r = .returned (.slice A 3 3) ∧ SlIs w' A 3 (yV (fil (fun _ => 7) 1 0)) ∧ Below W.heap.size W w' := by
  refine (low_any (some ⟨g, 0, none⟩) 1 1 (fun _ => 7) 3 (by omega) W (blk_slis h (fun j hj => by obtain rfl : j = 0 := (by omega); rfl))).mono ?_
  rintro r w' ⟨g, cap, f, rfl, _, hcap, hr, hf, hb⟩
  have e : clampK 3 = 3 := rfl
  rw [e] at *
  exact ⟨_, rfl, (SlIs.row hr hcap).congr hf, hb⟩
theorem high_ex (W : World) (g : Nat) (h : Blk W g 5 #[.int .u8 7]) : Calls Try.prog 14 #[.slice (some ⟨g, 0, none⟩) 1 1, .int .i64 3] W fun r w' =>
    ∃ A, r = .returned (.slice A 3 3) ∧ SlIs w' A 3 (yV (fil (fun _ => 7) 1 255)) ∧ Below W.heap.size W w' := by
  refine (high_any (some ⟨g, 0, none⟩) 1 1 (fun _ => 7) 3 (by omega) W (blk_slis h (fun j hj => by obtain rfl : j = 0 := (by omega); rfl))).mono ?_
  rintro r w' ⟨g, cap, f, rfl, _, hcap, hr, hf, hb⟩
  have e : clampK 3 = 3 := rfl
  rw [e] at *
  exact ⟨_, rfl, (SlIs.row hr hcap).congr hf, hb⟩

set_option maxHeartbeats 2000000 in
theorem fixed03_any (w : World) : Calls Try.prog 7 #[] w fun r w' => r = .returned (.bool true) ∧ Below w.heap.size w w' := by
  go_enter Try.func7, Try.ntmps7
  go_wp2_with fail
  refine (next_ex1 _ _ (Blk.new' rfl)).mono ?_
  rintro r w1 ⟨A, c, rfl, hs1, hb1⟩
  replace hb1 := Lib.hid (bel_eld (bel_alloc (Below.refl w.heap.size w) _) hb1)
  replace hs1 := Lib.hid hs1
  go_wp2_with fail
  refine (next_ex2 _ _ (Blk.new' rfl)).mono ?_
  rintro r w2 ⟨rfl, hb2⟩
  have hb12 := bel_eld (bel_alloc (Below.refl w1.heap.size w1) _) hb2
  have q1 := conv8 (hs1.out.below hb12) c
  rw [exa_str] at q1
  replace hb2 := Lib.hid (bel_eld hb1.out hb12)
  clear hb1 hb12 hs1
  go_wp2_with fail
  refine (low_ex _ _ (Blk.new' rfl)).mono ?_
  rintro r w3 ⟨B, rfl, hs3, hb3⟩
  have q2 := conv8 hs3 3
  rw [fil_str0] at q2
  replace hb3 := Lib.hid (bel_eld hb2.out (bel_eld (bel_alloc (Below.refl w2.heap.size w2) _) hb3))
  clear hb2 hs3 q1
  go_wp2_with fail
  refine (high_ex _ _ (Blk.new' rfl)).mono ?_
  rintro r w4 ⟨D, rfl, hs4, hb4⟩
  have q3 := conv8 hs4 3
  rw [fil_str255] at q3
  replace hb4 := Lib.hid (bel_eld hb3.out (bel_eld (bel_alloc (Below.refl w3.heap.size w3) _) hb4))
  clear hb3 hs4 q2
  go_wp2_with fail
  go_ret
  exact ⟨rfl, hb4.out⟩
end Go.Proofs.Ytkgjpebekcgagaa
