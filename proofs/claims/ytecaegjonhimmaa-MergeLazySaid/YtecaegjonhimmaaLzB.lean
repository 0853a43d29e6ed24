/-
  MergeLazy's sources as a system.
-/
import Derived.Test.YtecaegjonhimmaaLzA
namespace Go.Proofs.Ytecaegjonhimmaa
set_option linter.unusedVariables false
set_option linter.unusedSimpArgs false
open Go.RowKit Go.Shelf

/-- one source of MergeLazy: its boxes and its list -/
structure LzIs (w : World) (nb ib bx rb s : Nat) (l : List (Nat → Int)) : Prop where
  nbx : Blk w nb 36 #[srcV bx]
  ibx : Blk w ib 3 #[.int .i64 s]
  src : SrcIs w bx rb l
  rlt : rb < w.heap.size
theorem LzIs.tch {S : Nat → Prop} {w w' : World} {nb ib bx rb s : Nat} {l : List (Nat → Int)} (h : LzIs w nb ib bx rb s l) (ht : Tch S w w') (h1 : ¬ S nb) (h2 : ¬ S ib) (h3 : ¬ S bx) (h4 : ¬ S rb) : LzIs w' nb ib bx rb s l :=
  ⟨h.nbx.tch ht h1, h.ibx.tch ht h2, h.src.tch ht h3 h4, Nat.lt_of_lt_of_le h.rlt ht.size⟩
/-- what is taken: the box and its row -/
structure TkIs (w : World) (tb tk K : Nat) (p : Nat → Nat) : Prop where
  box : Blk w tb 49 #[.slice (some ⟨tk, 0, none⟩) K K]
  row : NRow w tk K p
theorem NRow.congr {w : World} {g n : Nat} {p q : Nat → Nat} (h : NRow w g n p) (e : ∀ s, s < n → p s = q s) : NRow w g n q := by
  have : (Array.ofFn (fun s : Fin n => (.int .i64 (p s) : Value))) = Array.ofFn (fun s : Fin n => (.int .i64 (q s) : Value)) := by
    congr 1
    funext s
    rw [e s s.2]
  unfold NRow at h ⊢
  rw [← this]; exact h
def lzSys (K tb tk : Nat) (nb ib bx rb : Nat → Nat) (L : Nat → List (Nat → Int)) : Sys where
  K := K
  gs := fun _ => 17
  lb := fun s => #[.pointer (some ⟨nb s, 0, none⟩), .pointer (some ⟨tb, 0, none⟩), .pointer (some ⟨ib s, 0, none⟩)]
  X := fun s i => sideX (atL (L s) i) s
  len := fun s => (L s).length
  T := fun k => k = tb ∨ k = tk ∨ ∃ s, s < K ∧ (k = bx s ∨ k = rb s ∨ k = nb s ∨ k = ib s)
  St := fun w pos => TkIs w tb tk K pos ∧ ∀ s, s < K → LzIs w (nb s) (ib s) (bx s) (rb s) s ((L s).drop (pos s))
theorem enter_lz : ∀ args w, (callFunc 17 args).run Try.prog w = .ok (.enter 17 args) w := enters_of Try.func17 (by kernel_rfl) rfl
/-- the blocks are apart -/
structure LzApart (K tb tk : Nat) (nb ib bx rb : Nat → Nat) : Prop where
  bb : ∀ s t, s < K → t < K → s ≠ t → bx s ≠ bx t ∧ rb s ≠ bx t
  nn : ∀ s t, s < K → t < K → nb s ≠ bx t ∧ ib s ≠ bx t
  kk : ∀ s, s < K → nb s ≠ tk ∧ ib s ≠ tk ∧ bx s ≠ tk ∧ rb s ≠ tk ∧ tb ≠ bx s
  tt : tb ≠ tk
theorem lzSys_ok {K tb tk : Nat} {nb ib bx rb : Nat → Nat} {L : Nat → List (Nat → Int)} (hK : K ≤ 20) (hL : ∀ s, s < K → (L s).length ≤ 100) (ha : LzApart K tb tk nb ib bx rb) : (lzSys K tb tk nb ib bx rb L).Ok where
  many := by show K ≤ 100; omega
  enters := fun s hs => enter_lz
  call := fun s hs w pos hst hpos => by
    obtain ⟨ht, hst⟩ := hst
    have h1 := hst s hs
    have hp : pos s ≤ (L s).length := hpos
    have hl := hL s hs
    obtain ⟨a1, a2, a3, a4, a5⟩ := ha.kk s hs
    obtain ⟨b1, b2⟩ := ha.nn s s hs hs
    refine (lz_any K (nb s) (ib s) tb tk (bx s) (rb s) s _ pos hs hK (by omega) w h1.nbx h1.ibx ht.box ht.row h1.src h1.rlt a3 a4 b2 a2 a5 ha.tt).mono ?_
    rintro r w' ⟨rfl, hsrc, hrow, htc⟩
    have e1 : (0 < ((L s).drop (pos s)).length) ↔ pos s < (lzSys K tb tk nb ib bx rb L).len s := by
      show _ ↔ pos s < (L s).length
      rw [List.length_drop]; omega
    refine ⟨sideX (atL ((L s).drop (pos s)) 0) s, fun _ => ?_, ?_, ⟨⟨ht.box.tch htc (fun h => ?_), ?_⟩, fun t ht2 => ?_⟩, htc.mono (fun k _ e => ?_)⟩
    · rw [atL_drop]; rfl
    · rw [decide_eq_decide.2 e1]
    · rcases h with h | h
      · exact a5 h
      · exact ha.tt h
    · have e2 : (if pos s < (lzSys K tb tk nb ib bx rb L).len s then updN pos s (pos s + 1) else pos) = (if 0 < ((L s).drop (pos s)).length then updN pos s (pos s + 1) else pos) := by
        by_cases h : 0 < ((L s).drop (pos s)).length
        · rw [if_pos h, if_pos (e1.1 h)]
        · rw [if_neg h, if_neg (fun h2 => h (e1.2 h2))]
      rw [e2]
      exact hrow
    · by_cases e : t = s
      · subst e
        have e2 : (L t).drop ((if pos t < (lzSys K tb tk nb ib bx rb L).len t then updN pos t (pos t + 1) else pos) t) = ((L t).drop (pos t)).drop 1 := by
          rw [List.drop_drop]
          split
          · unfold updN; rw [if_pos rfl]
          · rename_i h
            have h' : (L t).length ≤ pos t := by
              have : ¬ pos t < (L t).length := h
              omega
            rw [List.drop_of_length_le h', List.drop_of_length_le (by omega)]
        rw [e2]
        exact ⟨h1.nbx.tch htc (fun h => by rcases h with h | h; exact b1 h; exact a1 h), h1.ibx.tch htc (fun h => by rcases h with h | h; exact b2 h; exact a2 h), hsrc, Nat.lt_of_lt_of_le h1.rlt htc.size⟩
      · have e2 : (if pos s < (lzSys K tb tk nb ib bx rb L).len s then updN pos s (pos s + 1) else pos) t = pos t := by
          split
          · unfold updN; rw [if_neg e]
          · rfl
        rw [e2]
        obtain ⟨d1, d2⟩ := ha.bb t s ht2 hs e
        obtain ⟨c1, c2⟩ := ha.nn t s ht2 hs
        obtain ⟨f1, f2, f3, f4, f5⟩ := ha.kk t ht2
        exact (hst t ht2).tch htc (fun h => by rcases h with h | h; exact c1 h; exact f1 h) (fun h => by rcases h with h | h; exact c2 h; exact f2 h) (fun h => by rcases h with h | h; exact d1 h; exact f3 h) (fun h => by rcases h with h | h; exact d2 h; exact f4 h)
    · rcases e with e | e
      · exact Or.inr (Or.inr ⟨s, hs, Or.inl e⟩)
      · exact Or.inr (Or.inl e)
  cong := fun w pos pos' h hst => ⟨⟨hst.1.box, hst.1.row.congr h⟩, fun s hs => by rw [← h s hs]; exact hst.2 s hs⟩
  stab := fun w w' pos hst ht => ⟨⟨hst.1.box.tch ht (fun h => h (Or.inl rfl)), hst.1.row.tch ht (fun h => h (Or.inr (Or.inl rfl)))⟩, fun s hs => (hst.2 s hs).tch ht (fun h => h (Or.inr (Or.inr ⟨s, hs, Or.inr (Or.inr (Or.inl rfl))⟩))) (fun h => h (Or.inr (Or.inr ⟨s, hs, Or.inr (Or.inr (Or.inr rfl))⟩))) (fun h => h (Or.inr (Or.inr ⟨s, hs, Or.inl rfl⟩))) (fun h => h (Or.inr (Or.inr ⟨s, hs, Or.inr (Or.inl rfl)⟩)))⟩
  tlt := fun w pos hst k e => by
    rcases e with e | e | ⟨s, hs, e⟩
    · rw [e]; exact hst.1.box.lt
    · rw [e]; exact hst.1.row.lt
    · have h := hst.2 s hs
      rcases e with e | e | e | e
      · rw [e]; exact h.src.lt
      · rw [e]; exact h.rlt
      · rw [e]; exact h.nbx.lt
      · rw [e]; exact h.ibx.lt
end Go.Proofs.Ytecaegjonhimmaa
