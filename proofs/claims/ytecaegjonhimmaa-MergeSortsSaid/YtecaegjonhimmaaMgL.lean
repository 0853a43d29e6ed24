/-
  Next, from either start.
-/
import Derived.Test.YtecaegjonhimmaaMgK
namespace Go.Proofs.Ytecaegjonhimmaa
set_option linter.unusedVariables false
set_option linter.unusedSimpArgs false
open Go.RowKit Go.Shelf

/-- what a merge holds, begun or not; G: the blocks of its own beside its box -/
def MAt (S : Sys) (w : World) (B : Nat) (dn : Bool) (hd : Nat → Nat) (G : Nat → Prop) : Prop :=
  (hd = (fun _ => 0) ∧ ∃ A c, HsIs w B (.slice none 0 0) dn (.slice A S.K c) ∧ (0 < S.K → ∃ b o, A = some ⟨b, o, none⟩ ∧ G b ∧ b < w.heap.size ∧ ¬ S.T b ∧ b ≠ B ∧ ∀ s, s < S.K → w.cell? ⟨b, o + s, none⟩ = some (S.fv s)) ∧ S.St w (fun _ => 0)) ∨
  ∃ g n pl, MG S w B g dn hd n pl ∧ (G g ∨ g = B) ∧ g < w.heap.size ∧ ¬ S.T g
section
variable {S : Sys} {w w' : World} {B g n : Nat} {dn : Bool} {hd : Nat → Nat} {pl : Nat → Nat} {G G' : Nat → Prop}
theorem MAt.mono (h : MAt S w B dn hd G) (hg : ∀ k, k < w.heap.size → G k → G' k) : MAt S w B dn hd G' := by
  rcases h with ⟨h0, A, c, h1, h2, h3⟩ | ⟨g, n, pl, h1, h2, h3, h4⟩
  · refine Or.inl ⟨h0, A, c, h1, fun hk => ?_, h3⟩
    obtain ⟨b, o, a1, a2, a3, a4⟩ := h2 hk
    exact ⟨b, o, a1, hg b a3 a2, a3, a4⟩
  · exact Or.inr ⟨g, n, pl, h1, h2.imp_left (hg g h3), h3, h4⟩
theorem MAt.tch {Q : Nat → Prop} (h : MAt S w B dn hd G) (hS : S.Ok) (ht : Tch Q w w') (hB : ¬ Q B) (hg : ∀ k, k < w.heap.size → G k → ¬ Q k) (hT : ∀ k, S.T k → ¬ Q k) : MAt S w' B dn hd G := by
  rcases h with ⟨h0, A, c, h1, h2, h3⟩ | ⟨g, n, pl, h1, h2, h3, h4⟩
  · refine Or.inl ⟨h0, A, c, h1.tch ht hB, fun hk => ?_, hS.stab _ _ _ h3 (ht.mono (fun k _ q t => hT k t q))⟩
    obtain ⟨b, o, a1, a2, a3, a4, a5, a6⟩ := h2 hk
    exact ⟨b, o, a1, a2, Nat.lt_of_lt_of_le a3 ht.size, a4, a5, fun s hs => (ht.cell (p := ⟨b, o + s, none⟩) a3 (hg b a3 a2)).trans (a6 s hs)⟩
  · refine Or.inr ⟨g, n, pl, h1.tch hS ht hB ?_ hT, h2, Nat.lt_of_lt_of_le h3 ht.size, h4⟩
    rcases h2 with h | h
    · exact hg g h3 h
    · rw [h]; exact hB
theorem MAt.kept (h : MAt S w B dn hd G) (hS : S.Ok) (hb : Below w.heap.size w w') : MAt S w' B dn hd G := h.tch hS (Q := fun _ => False) (tch_of hb _) id (fun _ _ _ => id) (fun _ _ => id)
theorem MG.norm (h : MG S w B g dn hd n pl) : ∃ g', MG S w B g' dn hd n pl ∧ (g' = g ∨ g' = B) ∧ g' < w.heap.size := by
  rcases h.row with ⟨h0, h1⟩ | ⟨cap, h1⟩
  · exact ⟨B, ⟨Or.inl ⟨h0, h1⟩, h.ord, h.inj, h.mem, h.st, h.le⟩, Or.inr rfl, h1.lt⟩
  · exact ⟨g, h, Or.inl rfl, h1.lt⟩
theorem MAt.ltB (h : MAt S w B dn hd G) : B < w.heap.size := by
  rcases h with ⟨_, A, c, h1, _, _⟩ | ⟨g, n, pl, h1, _, _, _⟩
  · exact h1.lt
  · obtain ⟨v, h2⟩ := h1.cells; exact h2.lt
theorem MAt.ltT (h : MAt S w B dn hd G) (hS : S.Ok) : ∀ k, S.T k → k < w.heap.size := by
  rcases h with ⟨_, A, c, _, _, h3⟩ | ⟨g, n, pl, h1, _, _, _⟩
  · exact hS.tlt _ _ h3
  · exact hS.tlt _ _ h1.st
end
theorem next_at (S : Sys) (B : Nat) (dn : Bool) (hd : Nat → Nat) (G : Nat → Prop) (w : World) (hS : S.Ok) (hBT : ¬ S.T B) (h : MAt S w B dn hd G) :
    Calls Try.prog 11 #[.pointer (some ⟨B, 0, none⟩)] w fun r w' => ∃ hd', NextR S dn hd hd' r ∧ MAt S w' B dn hd' (fun k => G k ∨ w.heap.size ≤ k) ∧ Tch (fun k => S.T k ∨ k = B ∨ G k) w w' := by
  have hBl := h.ltB
  have hTl := h.ltT hS
  rcases h with ⟨rfl, A, c, h1, h2, h3⟩ | ⟨g, n, pl, h1, h2, h3, h4⟩
  · refine (next_of S B dn (fun _ => 0) (fun _ => False) w hS hBT hBl hTl (fun _ => False.elim) (fun _ => False.elim) (fun W hW => ?_)).mono ?_
    · have hsz := hW.size
      refine (begin_new S B W.heap.size dn W ⟨A, c, h1.tch (tch_of hW (fun _ => False)) id, fun hk => ?_, hS.stab _ _ _ h3 (tch_of hW _)⟩ hS (by omega) hBT (fun k hk => Nat.lt_of_lt_of_le (hTl k hk) hsz) (Nat.le_refl _)).mono ?_
      · obtain ⟨b, o, a1, a2, a3, a4, a5, a6⟩ := h2 hk
        exact ⟨b, o, a1, by omega, a4, a5, fun s hs => (World.cell?_of_block (a := ⟨b, o + s, none⟩) (hW.block b a3)).trans (a6 s hs)⟩
      · rintro e1 w1 ⟨rfl, hM, ht⟩
        obtain ⟨g, n, pl, hg, hM2⟩ := hM.mg
        exact ⟨rfl, g, n, pl, hM2, Or.inr hg, ht.mono (fun k hk h => by
          rcases h with h | h | h
          · exact Or.inl h
          · exact Or.inr h
          · omega)⟩
    · rintro e1 w1 ⟨hd', g, n, pl, hr, hM, hg, ht⟩
      obtain ⟨g', hM2, hg2, hg3⟩ := hM.norm
      have hg4 : w.heap.size ≤ g' ∨ g' = B := by
        rcases hg2 with h | h
        · rcases hg with h5 | h5 | h5
          · exact h5.elim
          · exact Or.inl (by omega)
          · exact Or.inr (by omega)
        · exact Or.inr h
      refine ⟨hd', hr, Or.inr ⟨g', n, pl, hM2, hg4.imp_left Or.inr, hg3, fun hT => ?_⟩, ht.mono (fun k _ h => h.imp_right (fun h => h.imp_right False.elim))⟩
      rcases hg4 with h | h
      · have := hTl _ hT; omega
      · rw [h] at hT; exact hBT hT
  · refine (next_of S B dn hd (fun k => k = g) w hS hBT hBl hTl (fun k e => by rw [e]; exact h3) (fun k e => by rw [e]; exact h4) (fun W hW => ?_)).mono ?_
    · have hM := h1.kept hS hW
      obtain ⟨v, hb⟩ := hM.cells
      refine (begin_ex B dn v W hb).mono ?_
      rintro e1 w1 ⟨rfl, rfl⟩
      exact ⟨rfl, g, n, pl, hM.set2 hS hBT, Or.inl rfl, (Tch.refl _ _).set (p := ⟨B, 2, none⟩) (fun _ => Or.inr rfl) _⟩
    · rintro e1 w1 ⟨hd', g1, n1, pl1, hr, hM, hg, ht⟩
      obtain ⟨g', hM2, hg2, hg3⟩ := hM.norm
      have hg4 : g' = g ∨ w.heap.size ≤ g' ∨ g' = B := by
        rcases hg2 with h | h
        · rcases hg with h5 | h5 | h5
          · exact Or.inl (h.trans h5)
          · exact Or.inr (Or.inl (by omega))
          · exact Or.inr (Or.inr (by omega))
        · exact Or.inr (Or.inr h)
      refine ⟨hd', hr, Or.inr ⟨g', n1, pl1, hM2, ?_, hg3, fun hT => ?_⟩, ht.mono (fun k _ h => ?_)⟩
      · rcases hg4 with h | h | h
        · rw [h]; exact h2.imp_left Or.inl
        · exact Or.inl (Or.inr h)
        · exact Or.inr h
      · rcases hg4 with h | h | h
        · rw [h] at hT; exact h4 hT
        · have := hTl _ hT; omega
        · rw [h] at hT; exact hBT hT
      · rcases h with h | h | h
        · exact Or.inl h
        · exact Or.inr (Or.inl h)
        · rw [h]; rcases h2 with h | h
          · exact Or.inr (Or.inr h)
          · exact Or.inr (Or.inl h)
end Go.Proofs.Ytecaegjonhimmaa
