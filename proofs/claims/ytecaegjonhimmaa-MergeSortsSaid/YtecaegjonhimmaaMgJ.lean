/-
  What a merge holds, its row known: plain laws for Next; begin again.
-/
import Derived.Test.YtecaegjonhimmaaMgI
namespace Go.Proofs.Ytecaegjonhimmaa
set_option linter.unusedVariables false
set_option linter.unusedSimpArgs false
open Go.RowKit Go.Shelf

/-- what a merge that has begun holds, its row being block g -/
structure MG (S : Sys) (w : World) (B g : Nat) (dn : Bool) (hd : Nat → Nat) (n : Nat) (pl : Nat → Nat) : Prop where
  row : (n = 0 ∧ HsIs w B (.slice none 0 0) dn (.slice none 0 0)) ∨ ∃ cap, HeIs w B g cap n dn (S.hs hd (.slice none 0 0)) pl
  ord : Ord dn (S.hs hd (.slice none 0 0)) n pl
  inj : Inj n pl
  mem : ∀ s, (∃ i, i < n ∧ pl i = s) ↔ s < S.K ∧ hd s < S.len s
  st : S.St w (fun s => min (hd s + 1) (S.len s))
  le : n ≤ S.K
section
variable {S : Sys} {w w' : World} {B g n cap : Nat} {dn : Bool} {hd : Nat → Nat} {pl pl' : Nat → Nat}
theorem HeIs.tch {Q : Nat → Prop} {H : Hs} (h : HeIs w B g cap n dn H pl) (ht : Tch Q w w') (hB : ¬ Q B) (hg : ¬ Q g) : HeIs w' B g cap n dn H pl := by
  obtain ⟨F, hr⟩ := h.row
  exact ⟨h.cells.tch ht hB, ⟨F, hr.tch ht hg⟩, h.ne⟩
theorem MG.tch {Q : Nat → Prop} (h : MG S w B g dn hd n pl) (hS : S.Ok) (ht : Tch Q w w') (hB : ¬ Q B) (hg : ¬ Q g) (hT : ∀ k, S.T k → ¬ Q k) : MG S w' B g dn hd n pl :=
  ⟨h.row.imp (fun ⟨a, b⟩ => ⟨a, b.tch ht hB⟩) (fun ⟨c, x⟩ => ⟨c, x.tch ht hB hg⟩), h.ord, h.inj, h.mem, hS.stab _ _ _ h.st (ht.mono (fun k _ q t => hT k t q)), h.le⟩
theorem MG.kept (h : MG S w B g dn hd n pl) (hS : S.Ok) (hb : Below w.heap.size w w') : MG S w' B g dn hd n pl := h.tch hS (Q := fun _ => False) (tch_of hb _) id id (fun _ _ => id)
theorem MG.cells (h : MG S w B g dn hd n pl) : ∃ v, Blk w B 57 #[v, .bool dn, .slice none 0 0] := by
  rcases h.row with ⟨_, h⟩ | ⟨cap, h⟩
  · exact ⟨_, h⟩
  · exact ⟨_, h.cells⟩
theorem MG.set2 (h : MG S w B g dn hd n pl) (hS : S.Ok) (hBT : ¬ S.T B) : MG S (w.setCell ⟨B, 2, none⟩ (.slice none 0 0)) B g dn hd n pl := by
  refine ⟨?_, h.ord, h.inj, h.mem, hS.stab _ _ _ h.st ((Tch.refl _ _).set (p := ⟨B, 2, none⟩) (fun _ => hBT) _), h.le⟩
  rcases h.row with ⟨h0, h⟩ | ⟨cap, h⟩
  · exact Or.inl ⟨h0, Blk.set' h 2 _ rfl⟩
  · obtain ⟨F, hr⟩ := h.row
    exact Or.inr ⟨cap, Blk.set' h.cells 2 _ rfl, ⟨F, hr.blk.far (Ne.symm h.ne) _, hr.len, hr.le, hr.max, hr.at_⟩, h.ne⟩
theorem MSt.mg {base : Nat} (h : MSt S w B base dn hd) : ∃ g n pl, (base ≤ g ∨ g = B) ∧ MG S w B g dn hd n pl := by
  obtain ⟨n, pl, hh, ho, hi, hs, hst, hn⟩ := h
  rcases hh with ⟨h0, h⟩ | ⟨g, cap, hg, h⟩
  · exact ⟨B, n, pl, Or.inr rfl, Or.inl ⟨h0, h⟩, ho, hi, hs, hst, hn⟩
  · exact ⟨g, n, pl, Or.inl hg, Or.inr ⟨cap, h⟩, ho, hi, hs, hst, hn⟩
/-- the source whose head comes first -/
def Best (S : Sys) (dn : Bool) (hd : Nat → Nat) (b : Nat) : Prop := b < S.K ∧ hd b < S.len b ∧ ∀ t, t < S.K → hd t < S.len t → lessB dn (S.hs hd (.slice none 0 0)) t b = false
theorem root_best {H : Hs} (h : Ord dn H n pl) : ∀ i, i < n → lessB dn H (pl i) (pl 0) = false := by
  intro i
  induction i using Nat.strongRecOn with
  | ind i ih =>
    intro hi
    rcases Nat.eq_zero_or_pos i with h0 | h0
    · subst h0
      cases hr : lessB dn H (pl 0) (pl 0) with
      | false => rfl
      | true => rw [less_asym hr] at hr; cases hr
    · have hp := par_lt h0
      exact less_ntrans (h i h0 hi) (ih (par i) hp (by omega))
theorem MG.best (h : MG S w B g dn hd n pl) (hn : 0 < n) : Best S dn hd (pl 0) := by
  obtain ⟨h1, h2⟩ := (h.mem (pl 0)).1 ⟨0, hn, rfl⟩
  refine ⟨h1, h2, fun t t1 t2 => ?_⟩
  obtain ⟨i, hi, rfl⟩ := (h.mem t).2 ⟨t1, t2⟩
  exact root_best h.ord i hi
theorem lessB_congr {H H' : Hs} {s t : Nat} (h1 : H.it s 0 = H'.it s 0) (h2 : H.it t 0 = H'.it t 0) : lessB dn H s t = lessB dn H' s t := by unfold lessB; rw [h1, h2]
theorem hs_it {v : Nat} {src : Value} {s t : Nat} (h : t ≠ s) : (S.hs (updN hd s v) src).it t = (S.hs hd src).it t := by
  show S.X t (updN hd s v t) = S.X t (hd t)
  unfold updN; rw [if_neg h]
/-- the first head's item is another one now -/
theorem fix_inv {v : Nat} (ho : Ord dn (S.hs hd (.slice none 0 0)) n pl) (hi : Inj n pl) : DownInv dn (S.hs (updN hd (pl 0) v) (.slice none 0 0)) n pl 0 := ⟨fun c h1 h2 h3 => by
  have hp := par_lt h1
  have e1 : pl c ≠ pl 0 := fun e => by have := hi c 0 h2 (by omega) e; omega
  have e2 : pl (par c) ≠ pl 0 := fun e => by have := hi (par c) 0 (by omega) (by omega) e; omega
  rw [lessB_congr (H' := S.hs hd (.slice none 0 0)) (by rw [hs_it e1]) (by rw [hs_it e2])]
  exact ho c h1 h2, fun h => absurd h (by omega)⟩
theorem pop_set (hi : Inj (n + 1) pl) (hs : SameS n (swp pl 0 n) pl') : (∀ t, (∃ i, i < n ∧ pl' i = t) ↔ (∃ i, i < n + 1 ∧ pl i = t) ∧ t ≠ pl 0) ∧ Inj n pl' := by
  have hsw : ∀ i, i < n → ∃ j, j < n + 1 ∧ 0 < j ∧ swp pl 0 n i = pl j := fun i h => by
    by_cases e : i = 0
    · subst e; exact ⟨n, by omega, by omega, swp_l (by omega)⟩
    · exact ⟨i, by omega, by omega, swp_o e (by omega)⟩
  refine ⟨fun t => ?_, hs.2 (fun a b ha hb e => ?_)⟩
  · rw [hs.1 t]
    constructor
    · rintro ⟨i, h, rfl⟩
      obtain ⟨j, h1, h2, h3⟩ := hsw i h
      rw [h3]
      exact ⟨⟨j, h1, rfl⟩, fun e => by have := hi j 0 h1 (by omega) e; omega⟩
    · rintro ⟨⟨i, h, rfl⟩, hne⟩
      have h0 : i ≠ 0 := fun e => hne (by rw [e])
      by_cases e : i = n
      · subst e; exact ⟨0, by omega, swp_l (by omega)⟩
      · exact ⟨i, by omega, swp_o h0 e⟩
  · by_cases e1 : a = 0 <;> by_cases e2 : b = 0
    · omega
    · subst e1; rw [swp_l (by omega), swp_o e2 (by omega)] at e; have := hi n b (by omega) (by omega) e; omega
    · subst e2; rw [swp_l (by omega), swp_o e1 (by omega)] at e; have := hi a n (by omega) (by omega) e; omega
    · rw [swp_o e1 (by omega), swp_o e2 (by omega)] at e; exact hi a b (by omega) (by omega) e
theorem head_set {F : Nat → List Value} {t : TypeId} {a0 a1 a2 a3 a4 a5 x0 x1 x2 x3 : Value} (h : Blk w g t (rowC cap F).toArray) (hc : 0 < cap) (hF : F 0 = [a0, a1, a2, a3, a4, a5]) :
    Blk ((((w.setCell ⟨g, 0, none⟩ x0).setCell ⟨g, 1, none⟩ x1).setCell ⟨g, 2, none⟩ x2).setCell ⟨g, 3, none⟩ x3) g t (rowC cap (updL F 0 [x0, x1, x2, x3, a4, a5])).toArray := by
  have h2 := (((h.set_ 0 x0).set_ 1 x1).set_ 2 x2).set_ 3 x3
  have e1 := rowC_split (f := F) hc
  have e2 := rowC_split (f := updL F 0 [x0, x1, x2, x3, a4, a5]) hc
  have e3 : updL F 0 [x0, x1, x2, x3, a4, a5] 0 = [x0, x1, x2, x3, a4, a5] := if_pos rfl
  have e4 : (fun j => updL F 0 [x0, x1, x2, x3, a4, a5] (0 + 1 + j)) = fun j => F (0 + 1 + j) := by funext j; unfold updL; rw [if_neg (by omega)]
  have e0 : ∀ f, rowC 0 f = [] := fun _ => rfl
  rw [e1, hF, e0, List.nil_append] at h2
  rw [e2, e3, e4, e0, List.nil_append]
  simpa using h2
end
set_option maxHeartbeats 4000000 in
theorem begin_ex (B : Nat) (dn : Bool) (v : Value) (w : World) (hb : Blk w B 57 #[v, .bool dn, .slice none 0 0]) :
    Calls Try.prog 18 #[.pointer (some ⟨B, 0, none⟩)] w fun r w' => r = .returned (.tuple #[]) ∧ w' = w.setCell ⟨B, 2, none⟩ (.slice none 0 0) := by
  have hl := hb.lt
  have c2 : w.cell? ⟨B, 2, none⟩ = some (.slice none 0 0) := Blk.cell hb 2
  have f2 := Blk.frozen hb 2
  clear hb
  go_enter Try.func18, Try.ntmps18
  go_wp2_with fail
  refine wp_loop_rounds 1 ?_
  rw [rounds_succ]
  go_wp2_with fail
  go_end0
  exact ⟨rfl, rfl⟩
end Go.Proofs.Ytecaegjonhimmaa
