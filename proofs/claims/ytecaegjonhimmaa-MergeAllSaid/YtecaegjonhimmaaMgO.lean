/-
  Sources over lists as a system; New, walked.
-/
import Derived.Test.YtecaegjonhimmaaMgN
namespace Go.Proofs.Ytecaegjonhimmaa
set_option linter.unusedVariables false
set_option linter.unusedSimpArgs false
open Go.RowKit Go.Shelf

theorem enter_of1 : ∀ args w, (callFunc 22 args).run Try.prog w = .ok (.enter 22 args) w := enters_of Try.func22 (by kernel_rfl) rfl
def ofSys (K : Nat) (bx rb : Nat → Nat) (L : Nat → List (Nat → Int)) : Sys where
  K := K
  gs := fun _ => 22
  lb := fun s => #[.pointer (some ⟨bx s, 0, none⟩)]
  X := fun s i => atL (L s) i
  len := fun s => (L s).length
  T := fun k => ∃ s, s < K ∧ (k = bx s ∨ k = rb s)
  St := fun w pos => ∀ s, s < K → SrcIs w (bx s) (rb s) ((L s).drop (pos s)) ∧ rb s < w.heap.size
theorem SrcIs.lt {w : World} {bx rb : Nat} {l : List (Nat → Int)} (h : SrcIs w bx rb l) : bx < w.heap.size := by
  obtain ⟨A, c, _, _, h, _⟩ := h
  exact h.lt
theorem atL_drop {l : List (Nat → Int)} {i j : Nat} : atL (l.drop i) j = atL l (i + j) := by
  unfold atL; rw [List.getD_eq_getElem?_getD, List.getD_eq_getElem?_getD, List.getElem?_drop]
theorem ofSys_ok {K : Nat} {bx rb : Nat → Nat} {L : Nat → List (Nat → Int)} (hK : K ≤ 100) (hd : ∀ s t, s < K → t < K → s ≠ t → bx s ≠ bx t ∧ rb s ≠ bx t) : (ofSys K bx rb L).Ok where
  many := hK
  enters := fun s hs => enter_of1
  call := fun s hs w pos hst hpos => by
    obtain ⟨h1, h2⟩ := hst s hs
    refine (of1_any (bx s) (rb s) _ w h1).mono ?_
    rintro r w' ⟨rfl, hsrc, ht⟩
    have e1 : (0 < ((L s).drop (pos s)).length) ↔ pos s < (ofSys K bx rb L).len s := by
      show _ ↔ pos s < (L s).length
      rw [List.length_drop]; omega
    refine ⟨atL ((L s).drop (pos s)) 0, fun _ => ?_, ?_, fun t ht2 => ?_, ht.mono (fun k _ e => ⟨s, hs, Or.inl e⟩)⟩
    · rw [atL_drop]; rfl
    · rw [decide_eq_decide.2 e1]
    · by_cases e : t = s
      · subst e
        refine ⟨?_, Nat.lt_of_lt_of_le h2 ht.size⟩
        have e2 : (L t).drop ((if pos t < (ofSys K bx rb L).len t then updN pos t (pos t + 1) else pos) t) = ((L t).drop (pos t)).drop 1 := by
          rw [List.drop_drop]
          split
          · unfold updN; rw [if_pos rfl]
          · rename_i h
            have h' : (L t).length ≤ pos t := by
              have : ¬ pos t < (L t).length := h
              omega
            rw [List.drop_of_length_le h', List.drop_of_length_le (by omega)]
        rw [e2]
        exact hsrc
      · have e2 : (if pos s < (ofSys K bx rb L).len s then updN pos s (pos s + 1) else pos) t = pos t := by
          split
          · unfold updN; rw [if_neg e]
          · rfl
        rw [e2]
        obtain ⟨h3, h4⟩ := hst t ht2
        obtain ⟨d1, d2⟩ := hd t s ht2 hs e
        exact ⟨h3.tch ht d1 d2, Nat.lt_of_lt_of_le h4 ht.size⟩
  cong := fun w pos pos' h hst s hs => by rw [← h s hs]; exact hst s hs
  stab := fun w w' pos hst ht s hs => by
    obtain ⟨h1, h2⟩ := hst s hs
    exact ⟨h1.tch ht (fun h => h ⟨s, hs, Or.inl rfl⟩) (fun h => h ⟨s, hs, Or.inr rfl⟩), Nat.lt_of_lt_of_le h2 ht.size⟩
  tlt := fun w pos hst k ⟨s, hs, e⟩ => by
    obtain ⟨h1, h2⟩ := hst s hs
    rcases e with e | e
    · rw [e]; exact h1.lt
    · rw [e]; exact h2
set_option maxHeartbeats 4000000 in
theorem new_any (S : Sys) (dn : Bool) (A : Option Addr) (c : Nat) (w : World) (hS : S.Ok) (hs : SsIs w A S.K 1 (fun s => [S.fv s])) (hst : S.St w (fun _ => 0)) :
    Calls Try.prog 15 #[.bool dn, .slice A S.K c] w fun r w' => ∃ B, r = .returned (.pointer (some ⟨B, 0, none⟩)) ∧ MAt S w' B dn (fun _ => 0) (fun k => w.heap.size ≤ k) ∧ w.heap.size ≤ B ∧ Below w.heap.size w w' := by
  have cC := clone_Fn_any A S.K c (fun s => [S.fv s]) (fun _ => rfl) (fun s u hu => by
    simp only [List.mem_cons, List.not_mem_nil, or_false] at hu
    subst hu; rfl) (by have := hS.many; omega) w hs
  have hTl := hS.tlt _ _ hst
  replace cC := Lib.hid cC
  replace hTl := Lib.hid hTl
  replace hst := Lib.hid hst
  clear hs
  go_enter Try.func15, Try.ntmps15
  go_wp2_with fail
  refine cC.out.mono ?_
  rintro e1 w1 ⟨v, rfl, ho, hb⟩
  obtain ⟨A1, c1, e, h1, h2, h3⟩ := ho.ssis (fun _ => rfl)
  have hrow : 0 < S.K → ∃ b, A1 = some ⟨b, 0, none⟩ ∧ w.heap.size ≤ b ∧ b < w1.heap.size ∧ ∀ s, s < S.K → w1.cell? ⟨b, 0 + s, none⟩ = some (S.fv s) := fun hk => by
    rcases ho.2 with ⟨_, e2⟩ | ⟨g, cap, cur, e2, hb2, hh, _⟩
    · omega
    · rw [e] at e2
      injection e2 with e4 e5 e6
      subst e4
      obtain ⟨b, o, e7, h8, h9⟩ := h3 hk
      cases e7
      exact ⟨g, rfl, hb2, h8, fun s hs => by have := h9 s hs 0 _ rfl; simpa using this⟩
  subst e
  have hsz := hb.size
  replace ho := Lib.hid ho
  replace hb := Lib.hid hb
  replace h3 := Lib.hid h3
  replace hrow := Lib.hid hrow
  go_wp2_with fail
  go_ret
  refine ⟨w1.heap.size, rfl, Or.inl ⟨rfl, A1, c1, Blk.new _ _ _, fun hk => ?_, hS.stab _ _ _ hst.out (tch_of (bel_alloc hb.out _) _)⟩, hsz, bel_alloc hb.out _⟩
  obtain ⟨b, e, q1, q2, q3⟩ := hrow.out hk
  exact ⟨b, 0, e, q1, by simp; omega, fun hT => by have := hTl.out _ hT; omega, by omega, fun s hs => (World.cell?_of_block ((bel_alloc (Below.refl _ _) _).block b q2)).trans (q3 s hs)⟩
end Go.Proofs.Ytecaegjonhimmaa
