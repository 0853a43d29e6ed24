/-
  A run of sources that are in order is in order: plain laws.
-/
import Derived.Test.YtecaegjonhimmaaSoA
namespace Go.Proofs.Ytecaegjonhimmaa
set_option linter.unusedVariables false
set_option linter.unusedSimpArgs false
open Go.RowKit Go.Shelf

def SortL (l : List (Nat → Int)) (s : Nat) : Prop := SortF l.length s (fun i => atL l i)
section
variable {K : Nat} {bx rb : Nat → Nat} {L : Nat → List (Nat → Int)} {R : List (Nat → Int)} {hd hk : Nat → Nat} {m : Nat}
theorem runs_side (hL : ∀ s, s < K → SortL (L s) s) (h : Runs (ofSys K bx rb L) false (fun _ => 0) R hd) (h' : Runs (ofSys K bx rb L) false (fun _ => 0) (R.take m) hk) (hm : m < R.length) :
    ∃ b, b < K ∧ Best (ofSys K bx rb L) false hk b ∧ atL R m = atL (L b) (hk b) ∧ atL R m 3 = b ∧ hk b < (L b).length ∧ Runs (ofSys K bx rb L) false (fun _ => 0) (R.take (m + 1)) (updN hk b (hk b + 1)) := by
  obtain ⟨hk2, r, nx⟩ := h.part m (by omega)
  obtain ⟨_, rfl⟩ := r.det h' rfl
  obtain ⟨b, hb⟩ := nx hm
  obtain ⟨e, r2⟩ := h.nth h' hm hb
  have hbK : b < K := hb.1
  have hbl : hk2 b < (L b).length := hb.2.1
  have e' : atL R m = atL (L b) (hk2 b) := e.symm
  exact ⟨b, hbK, hb, e', by rw [e']; exact (hL b hbK).2 _ hbl, hbl, r2⟩
theorem runs_order (hL : ∀ s, s < K → SortL (L s) s) (h : Runs (ofSys K bx rb L) false (fun _ => 0) R hd) (hm : m + 1 < R.length) :
    atL R m 0 < atL R (m + 1) 0 ∨ (atL R m 0 = atL R (m + 1) 0 ∧ atL R m 3 ≤ atL R (m + 1) 3) := by
  obtain ⟨hk, r, _⟩ := h.part m (by omega)
  obtain ⟨b, hbK, hb, e1, s1, l1, r1⟩ := runs_side hL h r (by omega)
  obtain ⟨c, hcK, hc, e2, s2, l2, r2⟩ := runs_side hL h r1 hm
  by_cases hbc : c = b
  · subst hbc
    have e3 : updN hk c (hk c + 1) c = hk c + 1 := if_pos rfl
    rw [e3] at e2 l2
    rw [s1, s2, e1, e2]
    have := (hL c hcK).1 (hk c) l2
    dsimp only at this
    omega
  · have e3 : updN hk b (hk b + 1) c = hk c := if_neg hbc
    rw [e3] at e2 l2
    rw [s1, s2, e1, e2]
    have h1 := hb.2.2 c hcK l2
    unfold lessB at h1
    have g1 : ((ofSys K bx rb L).hs hk (.slice none 0 0)).it c = atL (L c) (hk c) := rfl
    have g2 : ((ofSys K bx rb L).hs hk (.slice none 0 0)).it b = atL (L b) (hk b) := rfl
    rw [g1, g2] at h1
    by_cases g : atL (L c) (hk c) 0 = atL (L b) (hk b) 0
    · rw [if_pos g] at h1
      have := of_decide_eq_false h1
      omega
    · rw [if_neg g] at h1
      simp at h1
      omega
end
end Go.Proofs.Ytecaegjonhimmaa
