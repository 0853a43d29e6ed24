/-
  Joined: MgN MgO MgP.
-/
import Derived.Test.YtecaegjonhimmaaMgM
-- MgN
namespace Go.Proofs.Ytecaegjonhimmaa
set_option linter.unusedVariables false
set_option linter.unusedSimpArgs false
open Go.RowKit Go.Shelf

/-- the box of a source: what is left of its list; rb: the block of the list's row -/
def SrcIs (w : World) (bx rb : Nat) (l : List (Nat → Int)) : Prop :=
  ∃ A c, l.length ≤ c ∧ c ≤ maxLen ∧ Blk w bx 38 #[.slice A l.length c] ∧ SsIs w A l.length 4 (fun i => icl (atL l i)) ∧ ∀ a, A = some a → a.block = rb ∧ rb ≠ bx
theorem rangeAt_tch {S : Nat → Prop} {w w' : World} {b o : Nat} {cs : List Value} (h : w.rangeAt b o cs) (ht : Tch S w w') (hl : b < w.heap.size) (hs : ¬ S b) : w'.rangeAt b o cs := fun j v hj => (ht.cell (p := ⟨b, o + j, none⟩) hl hs).trans (h j v hj)
theorem SsIs.tch {S : Nat → Prop} {w w' : World} {A : Option Addr} {n k rb : Nat} {f : Nat → List Value} (h : SsIs w A n k f) (hA : ∀ a, A = some a → a.block = rb) (ht : Tch S w w') (hs : ¬ S rb) : SsIs w' A n k f := fun hm => by
  obtain ⟨b, o, e, hl, hc⟩ := h hm
  have hb : b = rb := hA _ e
  exact ⟨b, o, e, Nat.lt_of_lt_of_le hl ht.size, fun j hj => rangeAt_tch (hc j hj) ht hl (by rw [hb]; exact hs)⟩
theorem SrcIs.tch {S : Nat → Prop} {w w' : World} {bx rb : Nat} {l : List (Nat → Int)} (h : SrcIs w bx rb l) (ht : Tch S w w') (h1 : ¬ S bx) (h2 : ¬ S rb) : SrcIs w' bx rb l := by
  obtain ⟨A, c, a1, a2, a3, a4, a5⟩ := h
  exact ⟨A, c, a1, a2, a3.tch ht h1, a4.tch (fun a e => (a5 a e).1) ht h2, a5⟩
theorem atL_cons {x : Nat → Int} {l : List (Nat → Int)} {i : Nat} : atL (x :: l) (i + 1) = atL l i := rfl
theorem atL_zero {x : Nat → Int} {l : List (Nat → Int)} : atL (x :: l) 0 = x := rfl
set_option maxHeartbeats 4000000 in
theorem of1_any (bx rb : Nat) (l : List (Nat → Int)) (w : World) (h : SrcIs w bx rb l) :
    Calls Try.prog 22 #[.pointer (some ⟨bx, 0, none⟩)] w fun r w' => r = .returned (.tuple #[itV (atL l 0), .bool (decide (0 < l.length))]) ∧ SrcIs w' bx rb (l.drop 1) ∧ Tch (fun k => k = bx) w w' := by
  obtain ⟨A, c, hc1, hc2, hb, hs, hA⟩ := h
  have hbl := hb.lt
  have c0 : w.cell? ⟨bx, 0, none⟩ = some (.slice A l.length c) := Blk.cell hb 0
  have f0 := Blk.frozen hb 0
  unfold maxLen at hc2
  cases l with
  | nil =>
    replace hs := Lib.hid hs
    replace hb := Lib.hid hb
    replace hA := Lib.hid hA
    go_enter Try.func22, Try.ntmps22
    go_wp2_with fail
    refine abs_post (fun Y_ => Below w.heap.size w Y_ ∧ Blk Y_ w.heap.size 34 #[.int .u64 0, .int .u64 0, .int .u64 0, .int .u8 0]) ⟨by (repeat (first | exact Below.refl _ _ | assumption | refine below_drewN ?_ _ | refine bel_grow ?_ _ | refine Below.drew ?_ | refine bel_alloc ?_ _ | refine bel_set ?_ (by first | exact Nat.le_refl _ | (simp; done) | (simp; omega) | omega) _ | refine bel_trans ?_ (by assumption))), by (repeat (first | with_reducible assumption | (with_reducible refine Blk.new' ?_; first | with_reducible rfl | (simp; done)) | with_reducible refine Blk.alloc ?_ _ | with_reducible refine Blk.grow ?_ _ | with_reducible refine Blk.drew ?_ | with_reducible refine Blk.drewN ?_ _ | (with_reducible refine Blk.far ?_ (by first | (dsimp only; omega) | (simp; omega)) _) | (with_reducible apply Blk.two) | (with_reducible refine Blk.set' ?_ _ _ ?_) | (with_reducible rfl) | rfl))⟩ ?_
    rintro Y_ ⟨tY_, gP_⟩
    have HLV := loadVar_blk (ty := 34) Try.underlying34 rfl (by kernel_rfl) gP_ rfl
    exact bodyPost_ret (v := .tuple #[.agg #[.int .u64 0, .int .u64 0, .int .u64 0, .int .u8 0], .bool false]) (results_ct Try.results22 rfl HLV) rfl ⟨rfl, ⟨A, c, hc1, by unfold maxLen; exact hc2, hb.out.kept tY_, fun h => absurd h (by simp), hA.out⟩, tch_of tY_ _⟩
  | cons x l =>
    obtain ⟨g, o, e, hgl, hcl⟩ := hs (by simp)
    subst e
    obtain ⟨hg, hne⟩ := hA _ rfl
    dsimp only at hg
    subst hg
    have q0 := hcl 0 (by simp)
    have a0 : w.cell? ⟨g, o, none⟩ = some (.int .u64 (x 0)) := by simpa [icl, atL] using q0 0 (.int .u64 (x 0)) rfl
    have a1 : w.cell? ⟨g, o + 1, none⟩ = some (.int .u64 (x 1)) := by simpa [icl, atL] using q0 1 (.int .u64 (x 1)) rfl
    have a2 : w.cell? ⟨g, o + 2, none⟩ = some (.int .u64 (x 2)) := by simpa [icl, atL] using q0 2 (.int .u64 (x 2)) rfl
    have a3 : w.cell? ⟨g, o + 3, none⟩ = some (.int .u8 (x 3)) := by simpa [icl, atL] using q0 3 (.int .u8 (x 3)) rfl
    have hcl2 : Hid (∀ i, i < l.length → w.rangeAt g (o + 4 + i * 4) (icl (atL l i))) := Lib.hid (fun i hi => by
      have this : w.rangeAt g (o + (i + 1) * 4) (icl (atL l i)) := hcl (i + 1) (by simp; omega)
      rw [show o + 4 + i * 4 = o + (i + 1) * 4 by omega]
      exact this)
    clear q0 hcl hs
    replace hb := Lib.hid hb
    replace hA := Lib.hid hA
    have kd : decide (0 < (x :: l).length) = true := by simp
    rw [kd]
    simp only [List.length_cons] at c0 hc1
    obtain ⟨n, hn⟩ : ∃ n, n = l.length := ⟨_, rfl⟩
    rw [← hn] at c0 hc1
    replace hn := Lib.hid hn
    go_enter Try.func22, Try.ntmps22
    go_wp2_with fail
    all_goals
      obtain rfl := hn.out
      have hb3 := hb.out
      refine abs_post (fun Y_ => SrcIs Y_ bx g l ∧ Tch (fun k => k = bx) w Y_ ∧ Blk Y_ w.heap.size 34 #[.int .u64 (x 0), .int .u64 (x 1), .int .u64 (x 2), .int .u8 (x 3)]) ⟨⟨_, _, (by omega), (by unfold maxLen; omega), ((Blk.set' hb3 0 _ rfl).alloc _).alloc _, (fun hm => by first | (exfalso; omega) | exact ⟨g, _, rfl, by simp; omega, fun i hi => rangeAt_tch (hcl2.out i hi) ((((Tch.refl (fun k => k = bx) w).set (p := ⟨bx, 0, none⟩) (fun _ => rfl) _).alloc _).alloc _) hgl hne⟩), (fun a e => by cases e; exact ⟨rfl, hne⟩)⟩, ((((Tch.refl (fun k => k = bx) w).set (p := ⟨bx, 0, none⟩) (fun _ => rfl) _).alloc _).alloc _), by (repeat (first | with_reducible assumption | (with_reducible refine Blk.new' ?_; first | with_reducible rfl | (simp; done)) | with_reducible refine Blk.alloc ?_ _ | with_reducible refine Blk.grow ?_ _ | with_reducible refine Blk.drew ?_ | with_reducible refine Blk.drewN ?_ _ | (with_reducible refine Blk.far ?_ (by first | (dsimp only; omega) | (simp; omega)) _) | (with_reducible apply Blk.two) | (with_reducible refine Blk.set' ?_ _ _ ?_) | (with_reducible rfl) | rfl))⟩ ?_
      rintro Y_ ⟨sY_, tY_, gP_⟩
      have HLV := loadVar_blk (ty := 34) Try.underlying34 rfl (by kernel_rfl) gP_ rfl
      exact bodyPost_ret (v := .tuple #[.agg #[.int .u64 (x 0), .int .u64 (x 1), .int .u64 (x 2), .int .u8 (x 3)], .bool true]) (results_ct Try.results22 rfl HLV) rfl ⟨rfl, sY_, tY_⟩
set_option maxHeartbeats 4000000 in
theorem of_any (A : Option Addr) (c : Nat) (l : List (Nat → Int)) (hn : l.length ≤ 1000000) (w : World) (hs : SsIs w A l.length 4 (fun i => icl (atL l i))) : Calls Try.prog 14 #[.slice A l.length c] w fun r w' =>
      ∃ bx rb, r = .returned (.func (.func 22) #[] #[.pointer (some ⟨bx, 0, none⟩)]) ∧ SrcIs w' bx rb l ∧ w.heap.size ≤ bx ∧ bx < w'.heap.size ∧ w.heap.size ≤ rb ∧ rb < w'.heap.size ∧ Below w.heap.size w w' := by
  have cC := clone_It_any A l.length c (fun i => icl (atL l i)) (fun _ => rfl) (fun _ => icl_one _) hn w hs
  replace cC := Lib.hid cC
  clear hs
  go_enter Try.func14, Try.ntmps14
  go_wp2_with fail
  refine cC.out.mono ?_
  rintro e1 w1 ⟨v, rfl, ho, hb⟩
  have hrow : ∃ A1 c1 g, v = .slice A1 l.length c1 ∧ l.length ≤ c1 ∧ c1 ≤ maxLen ∧ SsIs w1 A1 l.length 4 (fun i => icl (atL l i)) ∧ (∀ a, A1 = some a → a.block = g ∧ g < w1.heap.size) ∧ w.heap.size ≤ g ∧ g ≤ w1.heap.size := by
    obtain ⟨A1, c1, e, h1, h2, h3⟩ := ho.ssis (fun _ => rfl)
    rcases ho.2 with ⟨e3, e2⟩ | ⟨g, cap, cur, e2, hb2, hh, _⟩
    · rw [e3] at e
      injection e with e4 e5 e6
      refine ⟨A1, c1, w1.heap.size, by rw [e3, ← e4, ← e5, ← e6], h1, h2, h3, fun a h => ?_, hb.size, Nat.le_refl _⟩
      rw [← e4] at h; cases h
    · rw [e] at e2
      injection e2 with e4 e5 e6
      subst e4
      have hlt := (Array.getElem?_eq_some_iff.1 hh).1
      exact ⟨_, c1, g, e, h1, h2, h3, fun a h => by cases h; exact ⟨rfl, hlt⟩, hb2, Nat.le_of_lt hlt⟩
  obtain ⟨A1, c1, g, rfl, h1, h2, h3, h4, h5, h6⟩ := hrow
  have hsz := hb.size
  replace ho := Lib.hid ho
  replace hb := Lib.hid hb
  replace h3 := Lib.hid h3
  replace h4 := Lib.hid h4
  go_wp2_with fail
  go_ret
  exact ⟨w1.heap.size, g, rfl, ⟨A1, c1, h1, h2, Blk.new _ _ _, h3.out.below (bel_alloc (Below.refl _ _) _), fun a e => ⟨(h4.out a e).1, by have := (h4.out a e).2; omega⟩⟩, hsz, by simp, h5, by simp; omega, bel_alloc hb.out _⟩
end Go.Proofs.Ytecaegjonhimmaa
-- MgO
namespace Go.Proofs.Ytecaegjonhimmaa
set_option linter.unusedVariables false
set_option linter.unusedSimpArgs false
open Go.RowKit Go.Shelf

theorem enter_of1 : ∀ args w, (callFunc 22 args).run Try.prog w = .ok (.enter 22 args) w := enters_of Try.func22 (by kernel_rfl) rfl
def ofSys (K : Nat) (bx rb : Nat → Nat) (L : Nat → List (Nat → Int)) : Sys where
  K := K
  gs := fun _ => 22
  lb := fun s => #[.pointer (some ⟨bx s, 0, none⟩)]
  X := fun s i => atL (L s) i
  len := fun s => (L s).length
  T := fun k => ∃ s, s < K ∧ (k = bx s ∨ k = rb s)
  St := fun w pos => ∀ s, s < K → SrcIs w (bx s) (rb s) ((L s).drop (pos s)) ∧ rb s < w.heap.size
theorem SrcIs.lt {w : World} {bx rb : Nat} {l : List (Nat → Int)} (h : SrcIs w bx rb l) : bx < w.heap.size := by
  obtain ⟨A, c, _, _, h, _⟩ := h
  exact h.lt
theorem atL_drop {l : List (Nat → Int)} {i j : Nat} : atL (l.drop i) j = atL l (i + j) := by
  unfold atL; rw [List.getD_eq_getElem?_getD, List.getD_eq_getElem?_getD, List.getElem?_drop]
theorem ofSys_ok {K : Nat} {bx rb : Nat → Nat} {L : Nat → List (Nat → Int)} (hK : K ≤ 100) (hd : ∀ s t, s < K → t < K → s ≠ t → bx s ≠ bx t ∧ rb s ≠ bx t) : (ofSys K bx rb L).Ok where
  many := hK
  enters := fun s hs => enter_of1
  call := fun s hs w pos hst hpos => by
    obtain ⟨h1, h2⟩ := hst s hs
    refine (of1_any (bx s) (rb s) _ w h1).mono ?_
    rintro r w' ⟨rfl, hsrc, ht⟩
    have e1 : (0 < ((L s).drop (pos s)).length) ↔ pos s < (ofSys K bx rb L).len s := by
      show _ ↔ pos s < (L s).length
      rw [List.length_drop]; omega
    refine ⟨atL ((L s).drop (pos s)) 0, fun _ => ?_, ?_, fun t ht2 => ?_, ht.mono (fun k _ e => ⟨s, hs, Or.inl e⟩)⟩
    · rw [atL_drop]; rfl
    · rw [decide_eq_decide.2 e1]
    · by_cases e : t = s
      · subst e
        refine ⟨?_, Nat.lt_of_lt_of_le h2 ht.size⟩
        have e2 : (L t).drop ((if pos t < (ofSys K bx rb L).len t then updN pos t (pos t + 1) else pos) t) = ((L t).drop (pos t)).drop 1 := by
          rw [List.drop_drop]
          split
          · unfold updN; rw [if_pos rfl]
          · rename_i h
            have h' : (L t).length ≤ pos t := by
              have : ¬ pos t < (L t).length := h
              omega
            rw [List.drop_of_length_le h', List.drop_of_length_le (by omega)]
        rw [e2]
        exact hsrc
      · have e2 : (if pos s < (ofSys K bx rb L).len s then updN pos s (pos s + 1) else pos) t = pos t := by
          split
          · unfold updN; rw [if_neg e]
          · rfl
        rw [e2]
        obtain ⟨h3, h4⟩ := hst t ht2
        obtain ⟨d1, d2⟩ := hd t s ht2 hs e
        exact ⟨h3.tch ht d1 d2, Nat.lt_of_lt_of_le h4 ht.size⟩
  cong := fun w pos pos' h hst s hs => by rw [← h s hs]; exact hst s hs
  stab := fun w w' pos hst ht s hs => by
    obtain ⟨h1, h2⟩ := hst s hs
    exact ⟨h1.tch ht (fun h => h ⟨s, hs, Or.inl rfl⟩) (fun h => h ⟨s, hs, Or.inr rfl⟩), Nat.lt_of_lt_of_le h2 ht.size⟩
  tlt := fun w pos hst k ⟨s, hs, e⟩ => by
    obtain ⟨h1, h2⟩ := hst s hs
    rcases e with e | e
    · rw [e]; exact h1.lt
    · rw [e]; exact h2
set_option maxHeartbeats 4000000 in
theorem new_any (S : Sys) (dn : Bool) (A : Option Addr) (c : Nat) (w : World) (hS : S.Ok) (hs : SsIs w A S.K 1 (fun s => [S.fv s])) (hst : S.St w (fun _ => 0)) :
    Calls Try.prog 15 #[.bool dn, .slice A S.K c] w fun r w' => ∃ B, r = .returned (.pointer (some ⟨B, 0, none⟩)) ∧ MAt S w' B dn (fun _ => 0) (fun k => w.heap.size ≤ k) ∧ w.heap.size ≤ B ∧ Below w.heap.size w w' := by
  have cC := clone_Fn_any A S.K c (fun s => [S.fv s]) (fun _ => rfl) (fun s u hu => by
    simp only [List.mem_cons, List.not_mem_nil, or_false] at hu
    subst hu; rfl) (by have := hS.many; omega) w hs
  have hTl := hS.tlt _ _ hst
  replace cC := Lib.hid cC
  replace hTl := Lib.hid hTl
  replace hst := Lib.hid hst
  clear hs
  go_enter Try.func15, Try.ntmps15
  go_wp2_with fail
  refine cC.out.mono ?_
  rintro e1 w1 ⟨v, rfl, ho, hb⟩
  obtain ⟨A1, c1, e, h1, h2, h3⟩ := ho.ssis (fun _ => rfl)
  have hrow : 0 < S.K → ∃ b, A1 = some ⟨b, 0, none⟩ ∧ w.heap.size ≤ b ∧ b < w1.heap.size ∧ ∀ s, s < S.K → w1.cell? ⟨b, 0 + s, none⟩ = some (S.fv s) := fun hk => by
    rcases ho.2 with ⟨_, e2⟩ | ⟨g, cap, cur, e2, hb2, hh, _⟩
    · omega
    · rw [e] at e2
      injection e2 with e4 e5 e6
      subst e4
      obtain ⟨b, o, e7, h8, h9⟩ := h3 hk
      cases e7
      exact ⟨g, rfl, hb2, h8, fun s hs => by have := h9 s hs 0 _ rfl; simpa using this⟩
  subst e
  have hsz := hb.size
  replace ho := Lib.hid ho
  replace hb := Lib.hid hb
  replace h3 := Lib.hid h3
  replace hrow := Lib.hid hrow
  go_wp2_with fail
  go_ret
  refine ⟨w1.heap.size, rfl, Or.inl ⟨rfl, A1, c1, Blk.new _ _ _, fun hk => ?_, hS.stab _ _ _ hst.out (tch_of (bel_alloc hb.out _) _)⟩, hsz, bel_alloc hb.out _⟩
  obtain ⟨b, e, q1, q2, q3⟩ := hrow.out hk
  exact ⟨b, 0, e, q1, by simp; omega, fun hT => by have := hTl.out _ hT; omega, by omega, fun s hs => (World.cell?_of_block ((bel_alloc (Below.refl _ _) _).block b q2)).trans (q3 s hs)⟩
end Go.Proofs.Ytecaegjonhimmaa
-- MgP
namespace Go.Proofs.Ytecaegjonhimmaa
set_option linter.unusedVariables false
set_option linter.unusedSimpArgs false
open Go.RowKit Go.Shelf

/-- a list of lists of items -/
def LsIs (w : World) (A : Option Addr) (n : Nat) (L : Nat → List (Nat → Int)) : Prop :=
  0 < n → ∃ b o, A = some ⟨b, o, none⟩ ∧ b < w.heap.size ∧ ∀ i, i < n → ∃ Ai ci, w.cell? ⟨b, o + i, none⟩ = some (.slice Ai (L i).length ci) ∧ (L i).length ≤ ci ∧ ci ≤ maxLen ∧ SsIs w Ai (L i).length 4 (fun j => icl (atL (L i) j))
theorem LsIs.kept {w w' : World} {A : Option Addr} {n : Nat} {L : Nat → List (Nat → Int)} (h : LsIs w A n L) (hb : Below w.heap.size w w') : LsIs w' A n L := fun hn => by
  obtain ⟨b, o, e, hl, hc⟩ := h hn
  refine ⟨b, o, e, Nat.lt_of_lt_of_le hl hb.size, fun i hi => ?_⟩
  obtain ⟨Ai, ci, h1, h2, h3, h4⟩ := hc i hi
  exact ⟨Ai, ci, keepc hb h1, h2, h3, h4.below hb⟩
theorem results_c1 {P : Program} {fn : Func} {a : Tmp} {t : TypeId} {tmps : Array Value} {w : World} {ad : Addr} {v : Value} (h : fn.results = #[.cell a t]) (ha : tmps.getD a undef = .pointer (some ad)) (hl : (loadVar t ad).run P w = .ok v w) : (results fn tmps).run P w = .ok v w := by
  simp at ha
  simp [results, h, ha, hl, asAddr, Sem.run_bind]
set_option maxHeartbeats 4000000 in
theorem item_any (x : Nat → Int) (w : World) : Calls Try.prog 12 #[itV x] w fun r w' => r = .returned (itV x) ∧ Below w.heap.size w w' := by
  unfold itV
  generalize x 0 = x0 at *
  generalize x 1 = x1 at *
  generalize x 2 = x2 at *
  generalize x 3 = x3 at *
  go_enter Try.func12, Try.ntmps12
  go_wp2_with fail
  refine abs_post (fun Y_ => Below w.heap.size w Y_ ∧ Blk Y_ (w.heap.size + 1) 34 #[.int .u64 x0, .int .u64 x1, .int .u64 x2, .int .u8 x3]) ⟨by (repeat (first | exact Below.refl _ _ | assumption | refine below_drewN ?_ _ | refine bel_grow ?_ _ | refine Below.drew ?_ | refine bel_alloc ?_ _ | refine bel_set ?_ (by first | exact Nat.le_refl _ | (simp; done) | (simp; omega) | omega) _ | refine bel_trans ?_ (by assumption))), by (repeat (first | with_reducible assumption | (with_reducible refine Blk.new' ?_; first | with_reducible rfl | (simp; done)) | with_reducible refine Blk.alloc ?_ _ | with_reducible refine Blk.grow ?_ _ | with_reducible refine Blk.drew ?_ | with_reducible refine Blk.drewN ?_ _ | (with_reducible refine Blk.far ?_ (by first | (dsimp only; omega) | (simp; omega)) _) | (with_reducible apply Blk.two) | (with_reducible refine Blk.set' ?_ _ _ ?_) | (with_reducible rfl) | rfl))⟩ ?_
  rintro Y_ ⟨tY_, gP_⟩
  have HLV := loadVar_blk (ty := 34) Try.underlying34 rfl (by kernel_rfl) gP_ rfl
  exact bodyPost_ret (v := .agg #[.int .u64 x0, .int .u64 x1, .int .u64 x2, .int .u8 x3]) (results_c1 Try.results12 rfl HLV) rfl ⟨rfl, tY_⟩
theorem ssis_at {w : World} {A : Option Addr} {l : List (Nat → Int)} {i : Nat} (h : SsIs w A l.length 4 (fun j => icl (atL l j))) (hi : i < l.length) : ∃ b o, A = some ⟨b, o, none⟩ ∧ b < w.heap.size ∧ w.cell? ⟨b, o + i * 4, none⟩ = some (.int .u64 (atL l i 0)) ∧ w.cell? ⟨b, o + i * 4 + 1, none⟩ = some (.int .u64 (atL l i 1)) ∧ w.cell? ⟨b, o + i * 4 + 2, none⟩ = some (.int .u64 (atL l i 2)) ∧ w.cell? ⟨b, o + i * 4 + 3, none⟩ = some (.int .u8 (atL l i 3)) := by
  obtain ⟨b, o, e, hl, hc⟩ := h (by omega)
  have q := hc i hi
  exact ⟨b, o, e, hl, by simpa [icl] using q 0 _ rfl, by simpa [icl] using q 1 _ rfl, by simpa [icl] using q 2 _ rfl, by simpa [icl] using q 3 _ rfl⟩
set_option maxHeartbeats 8000000 in
theorem items_any (A : Option Addr) (c : Nat) (l : List (Nat → Int)) (hc : l.length ≤ c) (hc2 : c ≤ maxLen) (hn : l.length ≤ 1000) (w : World) (hs : SsIs w A l.length 4 (fun j => icl (atL l j))) :
    Calls Try.prog 16 #[.slice A l.length c] w fun r w' => ∃ v, r = .returned v ∧ OwnS w' w.heap.size 34 4 v l.length (fun j => icl (atL l j)) ∧ Below w.heap.size w w' := by
  replace hs := Lib.hid hs
  unfold maxLen at hc2
  obtain ⟨n, hnl⟩ : ∃ n, n = l.length := ⟨_, rfl⟩
  rw [← hnl] at hc hn ⊢
  replace hnl := Lib.hid hnl
  have kcl : ∀ m, icl (atL l m) = [.int .u64 (atL l m 0), .int .u64 (atL l m 1), .int .u64 (atL l m 2), .int .u8 (atL l m 3)] := fun _ => rfl
  replace kcl := Lib.hid kcl
  have ho0 : OwnS w w.heap.size 34 4 (.slice none 0 0) 0 (fun j => icl (atL l j)) := OwnS.nil _ _ _ _ _
  replace ho0 := Lib.hid ho0
  go_enter Try.func16, Try.ntmps16
  go_wp2_with fail
  go_loopw [3, 8] (fun v i wr => ∃ m : Nat, m ≤ n ∧ i = .int .i64 m ∧ Hid (OwnS wr w.heap.size 34 4 v m (fun j => icl (atL l j))) ∧ Hid (Below w.heap.size w wr)) (fun _ i _ => n - (intOf i).toNat)
  case atStart => exact ⟨0, by omega, rfl, ho0, Below.refl _ _⟩
  case round =>
    clear ho0
    obtain ⟨m, hm, rfl, ho, hb⟩ := hrel
    have hsz := hb.out.size
    obtain ⟨A1, c1, rfl, hq1, hq2, _⟩ := ho.out.ssis (fun _ => rfl)
    by_cases hlt : m < n
    · obtain ⟨b, o, rfl, hbl, a0, a1, a2, a3⟩ := ssis_at (i := m) (hs.out.below hb.out) (by rw [← hnl.out]; exact hlt)
      have kx := kcl.out m
      have cI := item_any (atL l m)
      unfold itV at cI
      replace kx := Lib.hid kx
      generalize hx0 : atL l m 0 = x0 at *
      generalize hx1 : atL l m 1 = x1 at *
      generalize hx2 : atL l m 2 = x2 at *
      generalize hx3 : atL l m 3 = x3 at *
      clear hx0 hx1 hx2 hx3
      go_wp2_with fail
      refine (cI _).mono ?_
      rintro e2 w2 ⟨rfl, hb2⟩
      have hb3 := Lib.hid (bel_eld (bel_alloc hb.out _) hb2)
      have ho3 := Lib.hid (ho.out.kept (bel_eld (bel_alloc (Below.refl _ _) _) hb2))
      have hsz3 := hb3.out.size
      replace hb2 := Lib.hid hb2
      clear ho hb cI
      go_wp2_with (at_builtin; refine wpList_appS rfl (.tmp 12) (.tmp 15) (t0 := 34) (t := 38) Try.underlying38 info_Itm rfl (by omega) (by omega) rfl rfl rfl (ho3.out.kept (bel_alloc (Below.refl _ _) _)) rfl (by rw [kx.out]; exact Blk.new _ _ _) (icl_one _) (by omega) (by simp; omega) ?_; intro v5 w5 ho5 hb5; obtain ⟨A8, c8, rfl, _, _, _⟩ := OwnS.ssis ho5 (fun _ => rfl))
      go_roundw
      case rel => exact ⟨m + 1, by omega, by go_num, ho5, Lib.hid ((bel_alloc hb3.out _).trans hb5)⟩
      case measure => simp [intOf]; omega
    · obtain rfl : m = n := by omega
      go_wp2_with fail
      go_ret
      exact ⟨_, rfl, ho.out, hb.out⟩
set_option maxHeartbeats 4000000 in
theorem great_any (A : Option Addr) (n c : Nat) (L : Nat → List (Nat → Int)) (hn : n ≤ c) (hc : c ≤ maxLen) (w : World) (hL : LsIs w A n L) :
    Calls Try.prog 7 #[.slice A n c] w fun r w' => ∃ b : Bool, r = .returned (.bool b) ∧ (b = false → n ≤ 20 ∧ ∀ i, i < n → (L i).length ≤ 100) ∧ Below w.heap.size w w' := by
  replace hL := Lib.hid hL
  unfold maxLen at hc
  by_cases h20 : 20 < n
  · go_enter Try.func7, Try.ntmps7
    go_wp2_with fail
    go_ret
    exact ⟨true, rfl, fun h => (Bool.noConfusion h), Below.refl _ _⟩
  · go_enter Try.func7, Try.ntmps7
    go_wp2_with fail
    go_loopw [10] (fun i wr => ∃ m : Nat, m ≤ n ∧ i = .int .i64 m ∧ Hid (∀ i, i < m → (L i).length ≤ 100) ∧ wr = w) (fun i _ => n - (intOf i).toNat)
    case atStart => exact ⟨0, by omega, rfl, fun i h => by omega, rfl⟩
    case round =>
      obtain ⟨m, hm, rfl, hq, rfl⟩ := hrel
      by_cases hlt : m < n
      · obtain ⟨b, o, rfl, hbl, hcs⟩ := hL.out (by omega)
        obtain ⟨Ai, ci, a0, a1, a2, _⟩ := hcs m hlt
        unfold maxLen at a2
        clear hcs
        by_cases h100 : 100 < (L m).length
        · go_wp2_with fail
          go_ret
          exact ⟨true, rfl, fun h => (Bool.noConfusion h), Below.refl _ _⟩
        · go_wp2_with fail
          go_roundw
          case rel => exact ⟨m + 1, by omega, by go_num, Lib.hid (fun i hi => by
            by_cases e : i = m
            · subst e; omega
            · exact hq.out i (by omega)), trivial⟩
          case measure => simp [intOf]; omega
      · obtain rfl : m = n := by omega
        go_wp2_with fail
        go_ret
        exact ⟨false, rfl, fun _ => ⟨by omega, hq.out⟩, Below.refl _ _⟩
end Go.Proofs.Ytecaegjonhimmaa
