/-
  The chapter's example, walked.
-/
import Derived.Test.YtecaegjonhimmaaMgU
namespace Go.Proofs.Ytecaegjonhimmaa
set_option linter.unusedVariables false
set_option linter.unusedSimpArgs false
open Go.RowKit Go.Shelf

def fx (a d : Int) : Nat → Int := fun i => if i = 0 then a else if i = 3 then d else 0
def Lf : Nat → List (Nat → Int) := fun s => if s = 0 then [fx 1 0, fx 4 1] else [fx 2 0, fx 4 2]
theorem ssis_two {W : World} {g : Nat} {t : TypeId} {a b : Nat → Int} (h : Blk W g t (icl a ++ icl b).toArray) : SsIs W (some ⟨g, 0, none⟩) [a, b].length 4 (fun j => icl (atL [a, b] j)) := fun _ => by
  refine ⟨g, 0, rfl, h.lt, fun i hi j v hj => ?_⟩
  have hi2 : i = 0 ∨ i = 1 := by simp at hi; omega
  rw [Blk.cell h]
  rcases hi2 with rfl | rfl
  · match j, hj with
    | 0, hj => exact hj
    | 1, hj => exact hj
    | 2, hj => exact hj
    | 3, hj => exact hj
  · match j, hj with
    | 0, hj => exact hj
    | 1, hj => exact hj
    | 2, hj => exact hj
    | 3, hj => exact hj
def hd4 (a b : Nat) : Nat → Nat := fun s => if s = 0 then a else if s = 1 then b else 0
theorem hd4_0 (a b v : Nat) : updN (hd4 a b) 0 v = hd4 v b := by
  funext s; unfold updN hd4; by_cases e : s = 0 <;> simp [e]
theorem hd4_1 (a b v : Nat) : updN (hd4 a b) 1 v = hd4 a v := by
  funext s; unfold updN hd4; by_cases e : s = 0
  · subst e; simp
  · by_cases e2 : s = 1 <;> simp [e, e2]
theorem runs_fixed (bx rb : Nat → Nat) : Runs (ofSys 2 bx rb Lf) false (fun _ => 0) [fx 1 0, fx 2 0, fx 4 1, fx 4 2] (hd4 2 2) := by
  have e0 : (fun _ => 0 : Nat → Nat) = hd4 0 0 := by funext s; unfold hd4; by_cases e : s = 0 <;> simp [e]
  rw [e0]
  have two : ∀ {P : Nat → Prop}, P 0 → P 1 → ∀ t, t < (ofSys 2 bx rb Lf).K → P t := fun h0 h1 t ht => by
    have h2 : t < 2 := ht
    have : t = 0 ∨ t = 1 := by omega
    rcases this with rfl | rfl
    · exact h0
    · exact h1
  have s1 := (Runs.nil : Runs (ofSys 2 bx rb Lf) false (hd4 0 0) [] (hd4 0 0)).snoc (b := 0) ⟨(by decide : 0 < 2), (by decide : 0 < 2), two (fun _ => rfl) (fun _ => rfl)⟩
  have s2 := s1.snoc (b := 1) ⟨(by decide : 1 < 2), (by decide : 0 < 2), two (fun _ => rfl) (fun _ => rfl)⟩
  have s3 := s2.snoc (b := 0) ⟨(by decide : 0 < 2), (by decide : 1 < 2), two (fun _ => rfl) (fun _ => rfl)⟩
  have s4 := s3.snoc (b := 1) ⟨(by decide : 1 < 2), (by decide : 1 < 2), two (fun h => absurd (show 2 < 2 from h) (by decide)) (fun _ => rfl)⟩
  have e1 : hd4 2 2 = updN (updN (updN (updN (hd4 0 0) 0 1) 1 1) 0 2) 1 2 := by rw [hd4_0, hd4_1, hd4_0, hd4_1]
  rw [e1]
  exact s4
theorem done_fixed (bx rb : Nat → Nat) : Done (ofSys 2 bx rb Lf) (hd4 2 2) := fun t ht => by
  have h2 : t < 2 := ht
  have : t = 0 ∨ t = 1 := by omega
  rcases this with rfl | rfl <;> exact (by decide : 2 ≤ 2)
set_option maxHeartbeats 8000000 in
theorem fixed_any (w : World) : Calls Try.prog 8 #[] w fun r w' => r = .returned (.bool true) ∧ Below w.heap.size w w' := by
  go_enter Try.func8, Try.ntmps8
  go_wp2_with fail
  refine (of_any (some ⟨w.heap.size, 0, none⟩) 2 [fx 1 0, fx 4 1] (by decide) _ (ssis_two (Blk.new _ _ _))).mono ?_
  rintro e1 w1 ⟨b0, r0, rfl, hs0, z1, z2, z3, z4, hb1⟩
  have hsz1 := hb1.size
  simp at z1 z3 hsz1
  have hbw1 := Lib.hid (bel_eld (bel_alloc (Below.refl w.heap.size w) _) hb1)
  replace hs0 := Lib.hid hs0
  clear hb1
  go_wp2_with fail
  refine (of_any (some ⟨w1.heap.size, 0, none⟩) 2 [fx 2 0, fx 4 2] (by decide) _ (ssis_two (Blk.new _ _ _))).mono ?_
  rintro e2 w2 ⟨b1, r1, rfl, hs1, y1, y2, y3, y4, hb2⟩
  have hsz2 := hb2.size
  simp at y1 y3 hsz2
  have hb12 := bel_eld (bel_alloc (Below.refl w1.heap.size w1) _) hb2
  have hbw2 := Lib.hid (bel_eld hbw1.out hb12)
  have hs0' := Lib.hid (hs0.out.tch (tch_of hb12 (fun _ => False)) id id)
  obtain ⟨bx, hbx⟩ : ∃ bx : Nat → Nat, bx = fun s => if s = 0 then b0 else b1 := ⟨_, rfl⟩
  obtain ⟨rb, hrb⟩ : ∃ rb : Nat → Nat, rb = fun s => if s = 0 then r0 else r1 := ⟨_, rfl⟩
  have xb0 : bx 0 = b0 := by rw [hbx]; rfl
  have xb1 : bx 1 = b1 := by rw [hbx]; rfl
  have xr0 : rb 0 = r0 := by rw [hrb]; rfl
  have xr1 : rb 1 = r1 := by rw [hrb]; rfl
  have two : ∀ {P : Nat → Prop}, P 0 → P 1 → ∀ t, t < 2 → P t := fun h0 h1 t h2 => by
    have : t = 0 ∨ t = 1 := by omega
    rcases this with rfl | rfl
    · exact h0
    · exact h1
  have hok : (ofSys 2 bx rb Lf).Ok := ofSys_ok (by omega) (fun s t hs ht hst => by
    have h1 : (s = 0 ∧ t = 1) ∨ (s = 1 ∧ t = 0) := by omega
    rcases h1 with ⟨rfl, rfl⟩ | ⟨rfl, rfl⟩
    · rw [xb0, xb1, xr0]; omega
    · rw [xb0, xb1, xr1]; omega)
  have hst : ∀ W, Below w2.heap.size w2 W → (ofSys 2 bx rb Lf).St W (fun _ => 0) := fun W hW => by
    have hW2 := hW.size
    refine two ?_ ?_
    · rw [xb0, xr0]; exact ⟨hs0'.out.tch (tch_of hW (fun _ => False)) id id, by omega⟩
    · rw [xb1, xr1]; exact ⟨hs1.tch (tch_of hW (fun _ => False)) id id, by omega⟩
  have cN := fun W (hW : Below w2.heap.size w2 W) c hs => new_any (ofSys 2 bx rb Lf) false (some ⟨w2.heap.size, 0, none⟩) c W hok hs (hst W hW)
  have hT : ∀ k, (ofSys 2 bx rb Lf).T k → w.heap.size ≤ k ∧ k < w2.heap.size := fun k ⟨s, hs, e⟩ => by
    have q := hbw1.out.size
    revert e; revert s
    refine two ?_ ?_
    · rw [xb0, xr0]; omega
    · rw [xb1, xr1]; omega
  have hfs : ∀ W t, Blk W w2.heap.size t #[.func (.func 22) #[] #[.pointer (some ⟨b0, 0, none⟩)], .func (.func 22) #[] #[.pointer (some ⟨b1, 0, none⟩)]] → SsIs W (some ⟨w2.heap.size, 0, none⟩) 2 1 (fun s => [(ofSys 2 bx rb Lf).fv s]) := fun W t h _ => by
    refine ⟨_, 0, rfl, h.lt, fun i hi j v hj => ?_⟩
    rw [Blk.cell h]
    have : i = 0 ∨ i = 1 := by omega
    rcases this with rfl | rfl
    · match j, hj with
      | 0, hj => rw [← hj]; show some _ = some (Value.func (.func _) #[] #[.pointer (some ⟨bx 0, 0, none⟩)]); rw [xb0]; rfl
    · match j, hj with
      | 0, hj => rw [← hj]; show some _ = some (Value.func (.func _) #[] #[.pointer (some ⟨bx 1, 0, none⟩)]); rw [xb1]; rfl
  replace cN := Lib.hid cN
  replace hfs := Lib.hid hfs
  replace hT := Lib.hid hT
  replace hst := Lib.hid hst
  replace hs0 := Lib.hid True.intro
  replace hb2 := Lib.hid hb2
  replace hbx := Lib.hid hbx
  replace hrb := Lib.hid hrb
  clear hs1 two hb12
  go_wp2_with fail
  refine (cN.out _ (bel_alloc (Below.refl _ _) _) 2 (hfs.out _ _ (Blk.new _ _ _))).mono ?_
  rintro e3 w3 ⟨B, rfl, hMA, hB, hb3⟩
  simp at hB
  have hbw3 := Lib.hid (bel_eld (bel_alloc hbw2.out _) hb3)
  have cM := most_at (ofSys 2 bx rb Lf) B false (fun _ => 0) _ w3 9 hok (fun h => by have := (hT.out _ h).2; omega) hMA (by omega) (by omega)
  replace cM := Lib.hid cM
  have hTw : Hid (∀ k, k < w.heap.size → ¬ ((ofSys 2 bx rb Lf).T k ∨ k = B ∨ w2.heap.size + 1 ≤ k)) := Lib.hid (fun k hk h => by
    have q := hbw2.out.size
    rcases h with h | h | h
    · have := (hT.out _ h).1; omega
    · omega
    · omega)
  clear hb3 hMA
  go_wp2_with fail
  refine cM.out.mono ?_
  rintro e4 w4 ⟨l, hd', v, hr, hn, rfl, hL, _, ht4⟩
  have hbw4 := Lib.hid (hbw3.out.trans (ht4.below hbw3.out.size (fun k hk h => hTw.out k hk (h.imp_right (fun h => h.imp_right (fun h => by simpa using h))))))
  have hl4 : l = [fx 1 0, fx 2 0, fx 4 1, fx 4 2] := by
    rcases hn with hn | ⟨_, hD⟩
    · have := (runs_fixed bx rb).max (done_fixed bx rb) hr
      simp at this hn
      omega
    · exact (hr.whole hD (runs_fixed bx rb) (done_fixed bx rb)).1
  subst hl4
  obtain ⟨A, c, rfl, q1, q2⟩ := hL.form
  obtain ⟨_, _, _, _, _, hss⟩ := OwnS.ssis hL (fun _ => rfl)
  rename_i e9 _ _
  injection e9 with f1 f2 f3
  subst f1
  obtain ⟨b, o, e, hbl, hc⟩ := hss (by decide)
  subst e
  have k0 : w4.cell? ⟨b, o, none⟩ = some (.int .u64 1) := hc 0 (by decide) 0 _ rfl
  have k1 : w4.cell? ⟨b, o + 4, none⟩ = some (.int .u64 2) := hc 1 (by decide) 0 _ rfl
  have k2 : w4.cell? ⟨b, o + 11, none⟩ = some (.int .u8 1) := hc 2 (by decide) 3 _ rfl
  have k3 : w4.cell? ⟨b, o + 15, none⟩ = some (.int .u8 2) := hc 3 (by decide) 3 _ rfl
  simp only [List.length_cons, List.length_nil] at q1 ⊢
  unfold maxLen at q2
  replace hL := Lib.hid hL
  clear hc hss ht4 hr hn cM
  go_wp2_with fail
  go_ret
  exact ⟨rfl, hbw4.out⟩
end Go.Proofs.Ytecaegjonhimmaa
