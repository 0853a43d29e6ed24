/-
  fixed, walked.
-/
import Derived.Test.YtnbfnlpepnbppaaDkK
import Derived.Test.YtnbfnlpepnbppaaLm
namespace Go.Proofs.Ytnbfnlpepnbppaa
set_option linter.unusedVariables false
set_option linter.unusedSimpArgs false
open Go.RowKit Go.Shelf
attribute [local irreducible] bytesL

/-- what the two loose slots hold -/
def LFX (s : Nat) (v : Value) (X : World) : Prop := ∃ g, v = .slice (some ⟨g, 0, none⟩) 512 512 ∧ SlIs X (some ⟨g, 0, none⟩) 512 (fun j => .int .u8 ((if s = 58 then fullD 1 7 else fun _ => 0) j))
theorem LFX_up (s : Nat) (v : Value) (w w' : World) (h : LFX s v w) (hb : Below w.heap.size w w') : LFX s v w' := by
  obtain ⟨g, h1, h2⟩ := h
  exact ⟨g, h1, slis_below h2 hb⟩
set_option maxRecDepth 8000 in
set_option maxHeartbeats 8000000 in
theorem fixed_any (w : World) : Calls Try.prog 8 #[] w fun r w' => r = .returned (.bool true) ∧ Below w.heap.size w w' := by
  have cN := Lib.hid (newL 8 (by omega) (by omega) w)
  go_enter Try.func8, Try.ntmps8
  go_wp2_with fail
  refine cN.out.mono ?_
  rintro e1 w1 ⟨B, rfl, hD1, hb1⟩
  have hs1 := hb1.size
  have cF := Lib.hid (fuseL 1 w1 hD1)
  clear hD1 cN
  go_wp2_with fail
  refine cF.out.mono ?_
  rintro e2 w2 ⟨rfl, hD2, ht2⟩
  have hb2 := Lib.hid (hb1.trans (ht2.below hs1 (fun k h1 h2 => by omega)))
  have hs2 := ht2.size
  have cU := Lib.hid (full_any 1 7 (by omega) w2)
  clear ht2 cF hb1
  go_wp2_with fail
  refine cU.out.mono ?_
  rintro e3 w3 ⟨g3, rfl, hR3, hg3, hb3⟩
  have hs3 := hb3.size
  obtain ⟨q1, q2, q3, q4⟩ := fx7
  have cW := Lib.hid (writeL (d := fxA) 3 (some ⟨g3, 0, none⟩) 512 512 (fullD 1 7) (Nat.le_refl _) (by simp [maxLen]) (by rw [q1]; omega) (by rw [q2]; omega) (by rw [q3]; omega) (by rw [q4]; omega) w3 (hD2.kept hb3) (by omega) hs1 hR3.slis)
  have hb3' := Lib.hid (bel_eld hb2.out hb3)
  rw [fx1] at cW
  clear hD2 hR3 hb3 cU hb2
  go_wp2_with fail
  refine cW.out.mono ?_
  rintro e4 w4 ⟨rfl, hD4, ht4⟩
  have hs4 := ht4.size
  have hb4 := Lib.hid (hb3'.out.trans (ht4.below (by omega) (fun k h1 h2 => by omega)))
  have cU2 := Lib.hid (full_any 2 7 (by omega) w4)
  clear ht4 cW hb3'
  go_wp2_with fail
  refine cU2.out.mono ?_
  rintro e5 w5 ⟨g5, rfl, hR5, hg5, hb5⟩
  have hs5 := hb5.size
  obtain ⟨p1, p2, p3, p4⟩ := fx8
  have cW2 := Lib.hid (writeL (d := fxB) 4 (some ⟨g5, 0, none⟩) 512 512 (fullD 2 7) (Nat.le_refl _) (by simp [maxLen]) (by rw [p1]; omega) (by rw [p2]; omega) (by rw [p3]; omega) (by rw [p4]; omega) w5 (hD4.kept hb5) (by omega) (by omega) hR5.slis)
  have hb5' := Lib.hid (bel_eld hb4.out hb5)
  rw [fx2] at cW2
  clear hD4 hR5 hb5 cU2 hb4
  go_wp2_with fail
  refine cW2.out.mono ?_
  rintro e6 w6 ⟨rfl, hD6, ht6⟩
  have hs6 := ht6.size
  have hb6 := Lib.hid (hb5'.out.trans (ht6.below (by omega) (fun k h1 h2 => by omega)))
  clear ht6 cW2 hb5'
  go_upto_region 6 with fail
  have cC := Lib.hid (fun W (hW : Below w6.heap.size w6 W) (hg : Blk W w6.heap.size 61 #[.int .i64 0, .int .i64 512]) => crashL (d := fxC) (some ⟨w6.heap.size, 0, none⟩) 1 1 (fun _ => 0) (fun _ => 512) (Nat.le_refl _) (by simp [maxLen]) (by rw [fx5.2.1]; omega) (by rw [fx5.2.1]; omega) (by rw [fx5.1]; omega) (fun i hi => by
    rw [fx5.1] at hi
    rw [fx5.2.1]
    rcases (by omega : i = 0 ∨ i = 1) with rfl | rfl
    · rw [fx5.2.2.1]; omega
    · rw [fx5.2.2.2]; omega) W (hD6.kept hW) (fun _ => ⟨w6.heap.size, 0, rfl, hg.lt, fun j hj i u hu => by
      obtain rfl : j = 0 := by omega
      match i, hu with
      | 0, hu => cases hu; exact Blk.cell hg 0
      | 1, hu => cases hu; exact Blk.cell hg 1⟩) (fun a e _ => by cases e; exact Or.inr (Nat.le_refl _)))
  go_wp2_with fail
  refine (cC.out _ (bel_alloc (Below.refl _ _) _) (Blk.new _ _ _)).mono ?_
  rintro e7 w7 ⟨rfl, hD7, ht7⟩
  have hs7 := ht7.size
  simp at hs7
  have hb7 := Lib.hid ((bel_alloc hb6.out _).trans (ht7.below (by simp; omega) (fun k h1 h2 => by omega)))
  have cR := Lib.hid (readL (d := fxD) 3 (by rw [fx6.2]; omega) (by rw [fx6.1]; omega) w7 hD7)
  rw [fx3] at cR
  clear ht7 cC hb6 hD6 hD7
  go_wp2_with fail
  refine cR.out.mono ?_
  rintro e8 w8 ⟨v8, rfl, _, ho8, hD8, hb8⟩
  have hs8 := hb8.size
  obtain ⟨A8, c8, rfl, _, _, sl8⟩ := owB_slis (ho8 trivial)
  have hb8' := Lib.hid (bel_eld hb7.out hb8)
  have cR2 := Lib.hid (readL (d := fxD) 4 (by rw [fx6.2]; omega) (by rw [fx6.1]; omega) w8 hD8)
  rw [fx4] at cR2
  replace sl8 := Lib.hid sl8
  clear ho8 hD8 cR hb8 hb7
  go_wp2_with fail
  refine cR2.out.mono ?_
  rintro e9 w9 ⟨v9, rfl, _, ho9, _, hb9⟩
  have hs9 := hb9.size
  obtain ⟨A9, c9, rfl, _, _, sl9⟩ := owB_slis (ho9 trivial)
  have hb9' := Lib.hid (bel_eld hb8'.out hb9)
  have sl8' := slis_below sl8.out hb9
  clear ho9 cR2 hb9 hb8' sl8
  have t1 : strF (fxD.cur 3) 512 = strF (fullD 1 7) 512 := strF_congr (fun i hi => by rw [fx9]; unfold mixD; rw [if_pos (by omega)])
  have t2 : strF (fxD.cur 4) 512 = strF (fun _ => 0) 512 := by rw [fxE]
  obtain ⟨T1, hT1⟩ : ∃ T, T = strF (fullD 1 7) 512 := ⟨_, rfl⟩
  obtain ⟨T2, hT2⟩ : ∃ T, T = strF (fun _ => 0) 512 := ⟨_, rfl⟩
  have cv8 : ∀ W, Below w9.heap.size w9 W → (convert 39 9 (.slice A8 512 c8)).run Try.prog W = .ok (.string T1) W := fun W hW => by
    have := convB (slis_below sl8' hW) c8
    rw [hT1, ← t1]; exact this
  have cv9 : ∀ W, Below w9.heap.size w9 W → (convert 39 9 (.slice A9 512 c9)).run Try.prog W = .ok (.string T2) W := fun W hW => by
    have := convB (slis_below sl9 hW) c9
    rw [hT2, ← t2]; exact this
  have cU3 := Lib.hid (fun W => full_any 1 7 (by omega) W)
  have hmk := run_mkB
  clear sl8' sl9 t1 t2
  clear hs1 hs2 hs3 hs4 hs5 hs6 hs7 hs8 hs9 q1 q2 q3 q4 p1 p2 p3 p4
  go_upto_region 9 with fail
  have a1 := fun n d => cv8 (Grow (Grow w9 n) d) (bel_grow (grow_below w9 n) d)
  have a2 := fun n d => cv9 (Grow (Grow w9 n) d) (bel_grow (grow_below w9 n) d)
  refine LM.wp_region_loose (W0 := w9) (H := [58, 65]) (L := LFX) LFX_up (by kernel_rfl) (by kernel_rfl) (Below.refl _ _) (by simp) ?_
  repeat (apply LM.lexY_quiet 69 rfl (by kernel_rfl) (by kernel_rfl); intro n_ K_ hK_; go_big_quiet_op; exact hK_)
  apply LM.lexY_loose 58 (by kernel_rfl) (by kernel_rfl) 11 #[.int .u8 1, .int .u16 7]
  case hx =>
    intro W
    simp [go_sem]
  case hc =>
    intro n_
    refine (cU3.out _).mono ?_
    rintro r w' ⟨g, rfl, hR, _, hb⟩
    exact ⟨_, rfl, hb, g, rfl, hR.slis⟩
  case ha =>
    simp only [Act.put, List.setIfInBounds_toArray, List.set_cons_succ, List.set_cons_zero]
    exact rfl
  apply LM.lexY_dep 58 (.string T1) (by kernel_rfl) (by kernel_rfl)
  case hx =>
    rintro n_ u ⟨g, rfl, hs⟩
    have q := convB hs 512
    simp only [if_pos] at q
    rw [← hT1] at q
    simp [execOp, LM.ovr, q]
  case ha =>
    simp only [Act.put, List.setIfInBounds_toArray, List.set_cons_succ, List.set_cons_zero]
    exact rfl
  repeat (apply LM.lexY_quiet 69 rfl (by kernel_rfl) (by kernel_rfl); intro n_ K_ hK_; go_big_quiet_op; exact hK_)
  apply LM.lexY_made 65 (by kernel_rfl) (by kernel_rfl)
  case hx =>
    intro n_
    refine ⟨.slice (some ⟨(Grow w9 n_).heap.size, 0, none⟩) 512 512, (Grow w9 n_).alloc (.cells (bytesL (fun _ => 0)).toArray 5), ?_, bel_alloc (Below.refl _ _) _, _, rfl, ?_⟩
    · have q := hmk (Grow w9 n_)
      simp [go_sem, q]
    exact RowB.slis (d := fun _ => 0) (Blk.new _ _ _)
  case ha =>
    simp only [Act.put, List.setIfInBounds_toArray, List.set_cons_succ, List.set_cons_zero]
    exact rfl
  apply LM.lexY_dep 65 (.string T2) (by kernel_rfl) (by kernel_rfl)
  case hx =>
    rintro n_ u ⟨g, rfl, hs⟩
    have q := convB hs 512
    simp only [show (65 = 58) = False by simp, if_false] at q
    rw [← hT2] at q
    simp [execOp, LM.ovr, q]
  case ha =>
    simp only [Act.put, List.setIfInBounds_toArray, List.set_cons_succ, List.set_cons_zero]
    exact rfl
  repeat (apply LM.lexY_quiet 69 rfl (by kernel_rfl) (by kernel_rfl); intro n_ K_ hK_; go_big_quiet_op; exact hK_)
  intro a9' w10 hb10 hag
  obtain ⟨u1, u2, rfl⟩ := hag.two
  simp only [Act.put, List.setIfInBounds_toArray, List.set_cons_succ, List.set_cons_zero]
  have hbz := Lib.hid (hb9'.out.trans (hb10.mono hb9'.out.size))
  go_wp2_with fail
  go_ret
  exact ⟨rfl, hbz.out⟩
end Go.Proofs.Ytnbfnlpepnbppaa
