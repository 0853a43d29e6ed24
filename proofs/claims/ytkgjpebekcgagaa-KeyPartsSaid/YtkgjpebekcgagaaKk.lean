/-
  KeyRows, walked.
-/
import Derived.Test.YtkgjpebekcgagaaKj
import Derived.Test.YtkgjpebekcgagaaLooseB
import Derived.Deep.DeepCutAuto
namespace Go.Proofs.Ytkgjpebekcgagaa
set_option linter.unusedVariables false
set_option linter.unusedSimpArgs false
open Go.RowKit

/-- how many bytes the next row has, where there is one -/
def nxL (d : Nat → Int) (n : Nat) : Nat := if lp d n = 0 then 0 else n
theorem next_all (A : Option Addr) (n c : Nat) (d : Nat → Int) (hn : n ≤ 1000000) (hd : ∀ i, 0 ≤ d i ∧ d i < 256) (w : World) (hs : SlIs w A n (yV d)) : Calls Try.prog 8 #[.slice A n c] w fun r w' =>
      ∃ G c2, r = .returned (.tuple #[.slice G (nxL d n) c2, .bool (decide (0 < lp d n))]) ∧ SlIs w' G (nxL d n) (yV (nxt d (lp d n))) ∧ Below w.heap.size w w' := by
  by_cases hp : lp d n = 0
  · have e1 : nxL d n = 0 := by unfold nxL; rw [if_pos hp]
    have e2 : decide (0 < lp d n) = false := decide_eq_false (by omega)
    have HN : Calls Try.prog 8 #[.slice A n c] w fun r w' => r = .returned (.tuple #[.slice none 0 0, .bool false]) ∧ Below w.heap.size w w' := by
      rcases Nat.eq_zero_or_pos n with h0 | h0
      · subst h0; exact next_nil A c d w
      · exact next_no A n c d hn h0 hd hp w hs
    refine HN.mono ?_
    rintro r w' ⟨rfl, hb⟩
    rw [e1, e2]
    exact ⟨none, 0, rfl, SlIs.nil, hb⟩
  · have e1 : nxL d n = n := by unfold nxL; rw [if_neg hp]
    have e2 : decide (0 < lp d n) = true := decide_eq_true (by omega)
    refine (next_yes A n c d hn hd (by omega) w hs).mono ?_
    rintro r w' ⟨v, rfl, ho, hb⟩
    obtain ⟨G, c2, rfl, hG⟩ := ho.slis
    rw [e1, e2]
    exact ⟨G, c2, rfl, hG, hb⟩
theorem rnext_all (n : Nat) (d : Nat → Int) (hn : n ≤ 1000000) (hd : ∀ i, 0 ≤ d i ∧ d i < 256) (w : World) : Calls Try.prog 9 #[.string (strF d n)] w fun r w' =>
      r = .returned (.tuple #[.string (strF (nxt d (lp d n)) (nxL d n)), .bool (decide (0 < lp d n))]) ∧ Below w.heap.size w w' := by
  have h := rnext_any n d hn hd w
  have e : (if lp d n = 0 then ({ data := #[] } : ByteArray) else strF (nxt d (lp d n)) n) = strF (nxt d (lp d n)) (nxL d n) := by
    unfold nxL; split <;> rfl
  rw [e] at h
  exact h
theorem low_sl (A : Option Addr) (n c : Nat) (d : Nat → Int) (N : Int) (hn : n ≤ 1000000) (w : World) (hs : SlIs w A n (yV d)) : Calls Try.prog 12 #[.slice A n c, .int .i64 N] w fun r w' =>
      ∃ g, r = .returned (.slice (some ⟨g, 0, none⟩) (clampK N) (clampK N)) ∧ SlIs w' (some ⟨g, 0, none⟩) (clampK N) (yV (fil d n 0)) ∧ Below w.heap.size w w' := by
  refine (low_any A n c d N hn w hs).mono ?_
  rintro r w' ⟨g, cap, f, rfl, _, hcap, hr, hf, hb⟩
  exact ⟨g, rfl, (SlIs.row hr hcap).congr hf, hb⟩
theorem high_sl (A : Option Addr) (n c : Nat) (d : Nat → Int) (N : Int) (hn : n ≤ 1000000) (w : World) (hs : SlIs w A n (yV d)) : Calls Try.prog 14 #[.slice A n c, .int .i64 N] w fun r w' =>
      ∃ g, r = .returned (.slice (some ⟨g, 0, none⟩) (clampK N) (clampK N)) ∧ SlIs w' (some ⟨g, 0, none⟩) (clampK N) (yV (fil d n 255)) ∧ Below w.heap.size w w' := by
  refine (high_any A n c d N hn w hs).mono ?_
  rintro r w' ⟨g, cap, f, rfl, _, hcap, hr, hf, hb⟩
  exact ⟨g, rfl, (SlIs.row hr hcap).congr hf, hb⟩
/-- what the two loose slots hold -/
def LKR (cl : Nat) (f0 f1 : Nat → Int) (s : Nat) (v : Value) (X : World) : Prop := ∃ g, v = .slice (some ⟨g, 0, none⟩) cl cl ∧ SlIs X (some ⟨g, 0, none⟩) cl (yV (if s = 57 then f0 else f1))
theorem LKR_up {cl : Nat} {f0 f1 : Nat → Int} (s : Nat) (v : Value) (w w' : World) (h : LKR cl f0 f1 s v w) (hb : Below w.heap.size w w') : LKR cl f0 f1 s v w' := by
  obtain ⟨g, h1, h2⟩ := h
  exact ⟨g, h1, h2.below hb⟩

set_option maxHeartbeats 8000000 in
theorem keyRows_any (A : Option Addr) (n c : Nat) (x : Nat → Int) (hx : ∀ i, 0 ≤ x i ∧ x i < 256) (hn : n ≤ maxLen) (B : Option Addr) (m k : Nat) (y : Nat → Int) (hy : ∀ i, 0 ≤ y i ∧ y i < 256) (hm : m ≤ maxLen) (N : Int) (w : World) (hA : SlIs w A n (yV x)) (hB : SlIs w B m (yV y)) :
    Calls Try.prog 3 #[.slice A n c, .slice B m k, .int .i64 N] w fun r w' => r = .returned (.bool true) ∧ Below w.heap.size w w' := by
  unfold maxLen at hn hm
  have HX := Lib.hid (fun w => fixed03_any w)
  by_cases hg : n ≤ 100 ∧ m ≤ 100
  · obtain ⟨h1, h2⟩ := hg
    have HN := Lib.hid (next_all A n c x (by omega) hx w hA)
    have HR := Lib.hid (fun w => rnext_all n x (by omega) hx w)
    have HC := Lib.hid (fun W (hb : Below w.heap.size w W) => kcmp_any A B n c m k x y W (hA.below hb) (hB.below hb))
    have HD := Lib.hid (fun w => rcmp3_any n m x y hx hy (by simp [maxLen]; omega) (by simp [maxLen]; omega) w)
    have HL := Lib.hid (fun W (hb : Below w.heap.size w W) => low_sl A n c x N (by omega) W (hA.below hb))
    have HH := Lib.hid (fun W (hb : Below w.heap.size w W) => high_sl A n c x N (by omega) W (hA.below hb))
    have HF := Lib.hid (fun w => rfilled_any n x N 0 (by omega) w)
    have HG := Lib.hid (fun w => rfilled_any n x N 255 (by omega) w)
    have QA := Lib.hid (fun W (hb : Below w.heap.size w W) => conv8 (hA.below hb) c)
    have QB := Lib.hid (fun W (hb : Below w.heap.size w W) => conv8 (hB.below hb) k)
    clear hA hB hx hy
    generalize nxt x (lp x n) = z at *
    generalize nxL x n = L at *
    generalize decide (0 < lp x n) = ok at *
    generalize cmpB x n y m = v at *
    generalize fil x n 0 = f0 at *
    generalize fil x n 255 = f1 at *
    generalize clampK N = cl at *
    have q0 := QA.out w (Below.refl _ _)
    go_enter Try.func3, Try.ntmps3
    go_wp2_with fail
    refine HN.out.mono ?_
    rintro r w1 ⟨G, c2, rfl, hG, hb1⟩
    replace hG := Lib.hid hG
    have q1 := QA.out w1 hb1
    replace hb1 := Lib.hid hb1
    clear HN q0
    go_wp2_with fail
    refine (HR.out _).mono ?_
    rintro r w2 ⟨rfl, hb2⟩
    have QG := Lib.hid (fun W (hb : Below w2.heap.size w2 W) => conv8 (hG.out.below (bel_eld hb2 hb)) c2)
    replace hb2 := Lib.hid (bel_eld hb1.out hb2)
    clear hb1 q1 hG HR
    go_upto_region 5 with fail
    have hb2w := hb2.out
    have a1 := fun n d => QA.out (Grow (Grow w2 n) d) (bel_grow (bel_grow hb2w n) d)
    have a2 := fun n d => QB.out (Grow (Grow w2 n) d) (bel_grow (bel_grow hb2w n) d)
    have a3 := fun n d => QG.out (Grow (Grow w2 n) d) (bel_grow (grow_below w2 n) d)
    refine wp_region_loose (W0 := w2) (H := [57, 68]) (L := LKR cl f0 f1) LKR_up (by kernel_rfl) (by kernel_rfl) (Below.refl _ _) (by simp) ?_
    repeat (apply lexY_quiet 76 rfl (by kernel_rfl) (by kernel_rfl); intro n_ K_ hK_; go_big_quiet_op; first | exact hK_ | (apply Exists.intro; refine ⟨fun _ => ?_, ?_⟩; (first | (go_at_call 7; with_reducible exact grow_call (HX.out _)) | (go_at_call 10; with_reducible exact grow_call (HC.out _ (bel_grow (bel_grow hb2w _) _))) | (go_at_call 11; with_reducible exact grow_call (HD.out _)) | (go_at_call 13; first | with_reducible exact grow_call (HF.out _) | with_reducible exact grow_call (HG.out _))); exact hK_))
    apply lexY_loose 57 (by kernel_rfl) (by kernel_rfl) 12 #[.slice A n c, .int .i64 N]
    case hx =>
      intro W
      simp [go_sem]
    case hc =>
      intro n_
      refine (HL.out _ (bel_grow hb2w _)).mono ?_
      rintro r w' ⟨g, rfl, hs, hb⟩
      exact ⟨_, rfl, hb, g, rfl, hs⟩
    case ha =>
      simp only [Act.put, List.setIfInBounds_toArray, List.set_cons_succ, List.set_cons_zero]
      exact rfl
    apply lexY_dep 57 (.string (strF f0 cl)) (by kernel_rfl) (by kernel_rfl)
    case hx =>
      rintro n_ u ⟨g, rfl, hs⟩
      have q := conv8 hs cl
      simp only [if_pos] at q
      simp [execOp, ovr, q]
    case ha =>
      simp only [Act.put, List.setIfInBounds_toArray, List.set_cons_succ, List.set_cons_zero]
      exact rfl
    repeat (apply lexY_quiet 76 rfl (by kernel_rfl) (by kernel_rfl); intro n_ K_ hK_; go_big_quiet_op; first | exact hK_ | (apply Exists.intro; refine ⟨fun _ => ?_, ?_⟩; (first | (go_at_call 7; with_reducible exact grow_call (HX.out _)) | (go_at_call 10; with_reducible exact grow_call (HC.out _ (bel_grow (bel_grow hb2w _) _))) | (go_at_call 11; with_reducible exact grow_call (HD.out _)) | (go_at_call 13; first | with_reducible exact grow_call (HF.out _) | with_reducible exact grow_call (HG.out _))); exact hK_))
    apply lexY_loose 68 (by kernel_rfl) (by kernel_rfl) 14 #[.slice A n c, .int .i64 N]
    case hx =>
      intro W
      simp [go_sem]
    case hc =>
      intro n_
      refine (HH.out _ (bel_grow hb2w _)).mono ?_
      rintro r w' ⟨g, rfl, hs, hb⟩
      exact ⟨_, rfl, hb, g, rfl, hs⟩
    case ha =>
      simp only [Act.put, List.setIfInBounds_toArray, List.set_cons_succ, List.set_cons_zero]
      exact rfl
    apply lexY_dep 68 (.string (strF f1 cl)) (by kernel_rfl) (by kernel_rfl)
    case hx =>
      rintro n_ u ⟨g, rfl, hs⟩
      have q := conv8 hs cl
      simp only [show (68 = 57) = False by simp, if_false] at q
      simp [execOp, ovr, q]
    case ha =>
      simp only [Act.put, List.setIfInBounds_toArray, List.set_cons_succ, List.set_cons_zero]
      exact rfl
    repeat (apply lexY_quiet 76 rfl (by kernel_rfl) (by kernel_rfl); intro n_ K_ hK_; go_big_quiet_op; first | exact hK_ | (apply Exists.intro; refine ⟨fun _ => ?_, ?_⟩; (first | (go_at_call 7; with_reducible exact grow_call (HX.out _)) | (go_at_call 10; with_reducible exact grow_call (HC.out _ (bel_grow (bel_grow hb2w _) _))) | (go_at_call 11; with_reducible exact grow_call (HD.out _)) | (go_at_call 13; first | with_reducible exact grow_call (HF.out _) | with_reducible exact grow_call (HG.out _))); exact hK_))
    intro a9 w9 hb9 hag
    obtain ⟨u57, u68, rfl⟩ := hag.two
    simp only [Act.put, List.setIfInBounds_toArray, List.set_cons_succ, List.set_cons_zero]
    clear a1 a2 a3 hag
    replace hb9 := Lib.hid (bel_eld hb2w hb9)
    go_wp2_with fail
    go_ret
    exact ⟨rfl, hb9.out⟩
  · clear hA hB hx hy
    go_enter Try.func3, Try.ntmps3
    by_cases h30 : (100 : Int) < n
    · go_wp2_with fail
      refine (HX.out _).mono ?_
      rintro r w2 ⟨rfl, hb2⟩
      replace hb2 := Lib.hid hb2
      go_wp2_with fail
      go_ret
      exact ⟨rfl, hb2.out⟩
    · have hne : decide ((100 : Int) < m) = true := decide_eq_true (by omega)
      have h30' : decide ((100 : Int) < n) = false := decide_eq_false h30
      go_wp2_with fail
      refine (HX.out _).mono ?_
      rintro r w2 ⟨rfl, hb2⟩
      replace hb2 := Lib.hid hb2
      go_wp2_with fail
      go_ret
      exact ⟨rfl, hb2.out⟩
end Go.Proofs.Ytkgjpebekcgagaa
