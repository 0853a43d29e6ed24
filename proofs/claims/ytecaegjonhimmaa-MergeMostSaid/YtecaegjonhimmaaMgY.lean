/-
  MergeMost, walked.
-/
import Derived.Test.YtecaegjonhimmaaMgW
namespace Go.Proofs.Ytecaegjonhimmaa
set_option linter.unusedVariables false
set_option linter.unusedSimpArgs false
open Go.RowKit Go.Shelf

/-- the rest of a list, from the m-th item on -/
def RestIs (w : World) (lo hi : Nat) (v : Value) (R : List (Nat → Int)) (m : Nat) : Prop :=
  ∃ A c, v = .slice A (R.length - m) c ∧ R.length - m ≤ c ∧ c ≤ maxLen ∧ SsIs w A (R.length - m) 4 (fun j => icl (atL R (m + j))) ∧ ∀ a, A = some a → lo ≤ a.block ∧ a.block < hi
theorem RestIs.tch {S : Nat → Prop} {w w' : World} {lo hi m : Nat} {v : Value} {R : List (Nat → Int)} (h : RestIs w lo hi v R m) (ht : Tch S w w') (hs : ∀ k, lo ≤ k → k < hi → ¬ S k) : RestIs w' lo hi v R m := by
  obtain ⟨A, c, h1, h2, h3, h4, h5⟩ := h
  refine ⟨A, c, h1, h2, h3, fun hm => ?_, h5⟩
  obtain ⟨b, o, e, hl, hc⟩ := h4 hm
  obtain ⟨g1, g2⟩ := h5 _ e
  exact ⟨b, o, e, Nat.lt_of_lt_of_le hl ht.size, fun j hj => rangeAt_tch (hc j hj) ht hl (hs b g1 g2)⟩
theorem RestIs.kept {w w' : World} {lo hi m : Nat} {v : Value} {R : List (Nat → Int)} (h : RestIs w lo hi v R m) (hb : Below w.heap.size w w') : RestIs w' lo hi v R m := h.tch (S := fun _ => False) (tch_of hb _) (fun _ _ _ => id)
theorem LI.rest {w : World} {e : TypeId} {lo : Nat} {v : Value} {R : List (Nat → Int)} (h : LI e w v R) (hlo : ∀ b, v.ownBlock = some b → lo ≤ b) : RestIs w lo w.heap.size v R 0 := by
  have hlt := h.lt
  obtain ⟨A, c, e9, h1, h2, h3⟩ := OwnS.ssis h (fun _ => rfl)
  subst e9
  refine ⟨A, c, by rw [Nat.sub_zero], by rw [Nat.sub_zero]; exact h1, h2, by rw [Nat.sub_zero]; exact h3.congr (fun i _ => by rw [Nat.zero_add]), fun a ha => ?_⟩
  subst ha
  have hob : (Value.slice (some a) R.length c).ownBlock = some a.block := rfl
  exact ⟨hlo _ hob, hlt _ hob⟩
/-- some more of a run -/
theorem runs_more_of {S : Sys} {dn : Bool} {hd0 hd hd' hd2 : Nat → Nat} {R l : List (Nat → Int)} {m : Nat} {n : Int} (h : Runs S dn hd0 R hd) (hD : Done S hd) (h' : Runs S dn hd0 (R.take m) hd') (hm : m ≤ R.length) (hl : Runs S dn hd' l hd2) (hn : (l.length : Int) = max n 0 ∨ ((l.length : Int) < n ∧ Done S hd2)) :
    l = (R.drop m).take l.length ∧ m + l.length ≤ R.length ∧ (l.length : Int) = min (max n 0) (R.length - m : Nat) ∧ Runs S dn hd0 (R.take (m + l.length)) hd2 := by
  have hj := h'.join hl
  have hle := h.max hD hj
  rw [List.length_append, List.length_take, Nat.min_eq_left hm] at hle
  have ht := h.take hj (by rw [List.length_append, List.length_take, Nat.min_eq_left hm]; exact hle)
  rw [List.length_append, List.length_take, Nat.min_eq_left hm] at ht
  refine ⟨?_, hle, ?_, by rw [← ht]; exact hj⟩
  · have e : (R.take m ++ l).drop m = l := by
      rw [List.drop_append, List.drop_of_length_le (by rw [List.length_take]; omega), List.length_take, Nat.min_eq_left hm, Nat.sub_self]; rfl
    have e2 : (R.take (m + l.length)).drop m = (R.drop m).take l.length := by
      rw [List.drop_take]; congr 1; omega
    exact (e.symm.trans (by rw [ht])).trans e2
  · rcases hn with hn | ⟨h1, h2⟩
    · omega
    · have := hj.max h2 h
      rw [List.length_append, List.length_take, Nat.min_eq_left hm] at this
      omega
end Go.Proofs.Ytecaegjonhimmaa
