/-
  A source over a list: Of and its function, walked.
-/
import Derived.Test.YtecaegjonhimmaaMgM
namespace Go.Proofs.Ytecaegjonhimmaa
set_option linter.unusedVariables false
set_option linter.unusedSimpArgs false
open Go.RowKit Go.Shelf

/-- the box of a source: what is left of its list; rb: the block of the list's row -/
def SrcIs (w : World) (bx rb : Nat) (l : List (Nat → Int)) : Prop :=
  ∃ A c, l.length ≤ c ∧ c ≤ maxLen ∧ Blk w bx 38 #[.slice A l.length c] ∧ SsIs w A l.length 4 (fun i => icl (atL l i)) ∧ ∀ a, A = some a → a.block = rb ∧ rb ≠ bx
theorem rangeAt_tch {S : Nat → Prop} {w w' : World} {b o : Nat} {cs : List Value} (h : w.rangeAt b o cs) (ht : Tch S w w') (hl : b < w.heap.size) (hs : ¬ S b) : w'.rangeAt b o cs := fun j v hj => (ht.cell (p := ⟨b, o + j, none⟩) hl hs).trans (h j v hj)
theorem SsIs.tch {S : Nat → Prop} {w w' : World} {A : Option Addr} {n k rb : Nat} {f : Nat → List Value} (h : SsIs w A n k f) (hA : ∀ a, A = some a → a.block = rb) (ht : Tch S w w') (hs : ¬ S rb) : SsIs w' A n k f := fun hm => by
  obtain ⟨b, o, e, hl, hc⟩ := h hm
  have hb : b = rb := hA _ e
  exact ⟨b, o, e, Nat.lt_of_lt_of_le hl ht.size, fun j hj => rangeAt_tch (hc j hj) ht hl (by rw [hb]; exact hs)⟩
theorem SrcIs.tch {S : Nat → Prop} {w w' : World} {bx rb : Nat} {l : List (Nat → Int)} (h : SrcIs w bx rb l) (ht : Tch S w w') (h1 : ¬ S bx) (h2 : ¬ S rb) : SrcIs w' bx rb l := by
  obtain ⟨A, c, a1, a2, a3, a4, a5⟩ := h
  exact ⟨A, c, a1, a2, a3.tch ht h1, a4.tch (fun a e => (a5 a e).1) ht h2, a5⟩
theorem atL_cons {x : Nat → Int} {l : List (Nat → Int)} {i : Nat} : atL (x :: l) (i + 1) = atL l i := rfl
theorem atL_zero {x : Nat → Int} {l : List (Nat → Int)} : atL (x :: l) 0 = x := rfl
set_option maxHeartbeats 4000000 in
theorem of1_any (bx rb : Nat) (l : List (Nat → Int)) (w : World) (h : SrcIs w bx rb l) :
    Calls Try.prog 22 #[.pointer (some ⟨bx, 0, none⟩)] w fun r w' => r = .returned (.tuple #[itV (atL l 0), .bool (decide (0 < l.length))]) ∧ SrcIs w' bx rb (l.drop 1) ∧ Tch (fun k => k = bx) w w' := by
  obtain ⟨A, c, hc1, hc2, hb, hs, hA⟩ := h
  have hbl := hb.lt
  have c0 : w.cell? ⟨bx, 0, none⟩ = some (.slice A l.length c) := Blk.cell hb 0
  have f0 := Blk.frozen hb 0
  unfold maxLen at hc2
  cases l with
  | nil =>
    replace hs := Lib.hid hs
    replace hb := Lib.hid hb
    replace hA := Lib.hid hA
    go_enter Try.func22, Try.ntmps22
    go_wp2_with fail
    refine abs_post (fun Y_ => Below w.heap.size w Y_ ∧ Blk Y_ w.heap.size 34 #[.int .u64 0, .int .u64 0, .int .u64 0, .int .u8 0]) ⟨by (repeat (first | exact Below.refl _ _ | assumption | refine below_drewN ?_ _ | refine bel_grow ?_ _ | refine Below.drew ?_ | refine bel_alloc ?_ _ | refine bel_set ?_ (by first | exact Nat.le_refl _ | (simp; done) | (simp; omega) | omega) _ | refine bel_trans ?_ (by assumption))), by (repeat (first | with_reducible assumption | (with_reducible refine Blk.new' ?_; first | with_reducible rfl | (simp; done)) | with_reducible refine Blk.alloc ?_ _ | with_reducible refine Blk.grow ?_ _ | with_reducible refine Blk.drew ?_ | with_reducible refine Blk.drewN ?_ _ | (with_reducible refine Blk.far ?_ (by first | (dsimp only; omega) | (simp; omega)) _) | (with_reducible apply Blk.two) | (with_reducible refine Blk.set' ?_ _ _ ?_) | (with_reducible rfl) | rfl))⟩ ?_
    rintro Y_ ⟨tY_, gP_⟩
    have HLV := loadVar_blk (ty := 34) Try.underlying34 rfl (by kernel_rfl) gP_ rfl
    exact bodyPost_ret (v := .tuple #[.agg #[.int .u64 0, .int .u64 0, .int .u64 0, .int .u8 0], .bool false]) (results_ct Try.results22 rfl HLV) rfl ⟨rfl, ⟨A, c, hc1, by unfold maxLen; exact hc2, hb.out.kept tY_, fun h => absurd h (by simp), hA.out⟩, tch_of tY_ _⟩
  | cons x l =>
    obtain ⟨g, o, e, hgl, hcl⟩ := hs (by simp)
    subst e
    obtain ⟨hg, hne⟩ := hA _ rfl
    dsimp only at hg
    subst hg
    have q0 := hcl 0 (by simp)
    have a0 : w.cell? ⟨g, o, none⟩ = some (.int .u64 (x 0)) := by simpa [icl, atL] using q0 0 (.int .u64 (x 0)) rfl
    have a1 : w.cell? ⟨g, o + 1, none⟩ = some (.int .u64 (x 1)) := by simpa [icl, atL] using q0 1 (.int .u64 (x 1)) rfl
    have a2 : w.cell? ⟨g, o + 2, none⟩ = some (.int .u64 (x 2)) := by simpa [icl, atL] using q0 2 (.int .u64 (x 2)) rfl
    have a3 : w.cell? ⟨g, o + 3, none⟩ = some (.int .u8 (x 3)) := by simpa [icl, atL] using q0 3 (.int .u8 (x 3)) rfl
    have hcl2 : Hid (∀ i, i < l.length → w.rangeAt g (o + 4 + i * 4) (icl (atL l i))) := Lib.hid (fun i hi => by
      have this : w.rangeAt g (o + (i + 1) * 4) (icl (atL l i)) := hcl (i + 1) (by simp; omega)
      rw [show o + 4 + i * 4 = o + (i + 1) * 4 by omega]
      exact this)
    clear q0 hcl hs
    replace hb := Lib.hid hb
    replace hA := Lib.hid hA
    have kd : decide (0 < (x :: l).length) = true := by simp
    rw [kd]
    simp only [List.length_cons] at c0 hc1
    obtain ⟨n, hn⟩ : ∃ n, n = l.length := ⟨_, rfl⟩
    rw [← hn] at c0 hc1
    replace hn := Lib.hid hn
    go_enter Try.func22, Try.ntmps22
    go_wp2_with fail
    all_goals
      obtain rfl := hn.out
      have hb3 := hb.out
      refine abs_post (fun Y_ => SrcIs Y_ bx g l ∧ Tch (fun k => k = bx) w Y_ ∧ Blk Y_ w.heap.size 34 #[.int .u64 (x 0), .int .u64 (x 1), .int .u64 (x 2), .int .u8 (x 3)]) ⟨⟨_, _, (by omega), (by unfold maxLen; omega), ((Blk.set' hb3 0 _ rfl).alloc _).alloc _, (fun hm => by first | (exfalso; omega) | exact ⟨g, _, rfl, by simp; omega, fun i hi => rangeAt_tch (hcl2.out i hi) ((((Tch.refl (fun k => k = bx) w).set (p := ⟨bx, 0, none⟩) (fun _ => rfl) _).alloc _).alloc _) hgl hne⟩), (fun a e => by cases e; exact ⟨rfl, hne⟩)⟩, ((((Tch.refl (fun k => k = bx) w).set (p := ⟨bx, 0, none⟩) (fun _ => rfl) _).alloc _).alloc _), by (repeat (first | with_reducible assumption | (with_reducible refine Blk.new' ?_; first | with_reducible rfl | (simp; done)) | with_reducible refine Blk.alloc ?_ _ | with_reducible refine Blk.grow ?_ _ | with_reducible refine Blk.drew ?_ | with_reducible refine Blk.drewN ?_ _ | (with_reducible refine Blk.far ?_ (by first | (dsimp only; omega) | (simp; omega)) _) | (with_reducible apply Blk.two) | (with_reducible refine Blk.set' ?_ _ _ ?_) | (with_reducible rfl) | rfl))⟩ ?_
      rintro Y_ ⟨sY_, tY_, gP_⟩
      have HLV := loadVar_blk (ty := 34) Try.underlying34 rfl (by kernel_rfl) gP_ rfl
      exact bodyPost_ret (v := .tuple #[.agg #[.int .u64 (x 0), .int .u64 (x 1), .int .u64 (x 2), .int .u8 (x 3)], .bool true]) (results_ct Try.results22 rfl HLV) rfl ⟨rfl, sY_, tY_⟩
set_option maxHeartbeats 4000000 in
theorem of_any (A : Option Addr) (c : Nat) (l : List (Nat → Int)) (hn : l.length ≤ 1000000) (w : World) (hs : SsIs w A l.length 4 (fun i => icl (atL l i))) : Calls Try.prog 14 #[.slice A l.length c] w fun r w' =>
      ∃ bx rb, r = .returned (.func (.func 22) #[] #[.pointer (some ⟨bx, 0, none⟩)]) ∧ SrcIs w' bx rb l ∧ w.heap.size ≤ bx ∧ bx < w'.heap.size ∧ w.heap.size ≤ rb ∧ rb < w'.heap.size ∧ Below w.heap.size w w' := by
  have cC := clone_It_any A l.length c (fun i => icl (atL l i)) (fun _ => rfl) (fun _ => icl_one _) hn w hs
  replace cC := Lib.hid cC
  clear hs
  go_enter Try.func14, Try.ntmps14
  go_wp2_with fail
  refine cC.out.mono ?_
  rintro e1 w1 ⟨v, rfl, ho, hb⟩
  have hrow : ∃ A1 c1 g, v = .slice A1 l.length c1 ∧ l.length ≤ c1 ∧ c1 ≤ maxLen ∧ SsIs w1 A1 l.length 4 (fun i => icl (atL l i)) ∧ (∀ a, A1 = some a → a.block = g ∧ g < w1.heap.size) ∧ w.heap.size ≤ g ∧ g ≤ w1.heap.size := by
    obtain ⟨A1, c1, e, h1, h2, h3⟩ := ho.ssis (fun _ => rfl)
    rcases ho.2 with ⟨e3, e2⟩ | ⟨g, cap, cur, e2, hb2, hh, _⟩
    · rw [e3] at e
      injection e with e4 e5 e6
      refine ⟨A1, c1, w1.heap.size, by rw [e3, ← e4, ← e5, ← e6], h1, h2, h3, fun a h => ?_, hb.size, Nat.le_refl _⟩
      rw [← e4] at h; cases h
    · rw [e] at e2
      injection e2 with e4 e5 e6
      subst e4
      have hlt := (Array.getElem?_eq_some_iff.1 hh).1
      exact ⟨_, c1, g, e, h1, h2, h3, fun a h => by cases h; exact ⟨rfl, hlt⟩, hb2, Nat.le_of_lt hlt⟩
  obtain ⟨A1, c1, g, rfl, h1, h2, h3, h4, h5, h6⟩ := hrow
  have hsz := hb.size
  replace ho := Lib.hid ho
  replace hb := Lib.hid hb
  replace h3 := Lib.hid h3
  replace h4 := Lib.hid h4
  go_wp2_with fail
  go_ret
  exact ⟨w1.heap.size, g, rfl, ⟨A1, c1, h1, h2, Blk.new _ _ _, h3.out.below (bel_alloc (Below.refl _ _) _), fun a e => ⟨(h4.out a e).1, by have := (h4.out a e).2; omega⟩⟩, hsz, by simp, h5, by simp; omega, bel_alloc hb.out _⟩
end Go.Proofs.Ytecaegjonhimmaa
