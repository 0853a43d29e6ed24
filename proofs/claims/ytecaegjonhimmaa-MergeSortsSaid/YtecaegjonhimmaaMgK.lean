/-
  Next, walked.
-/
import Derived.Test.YtecaegjonhimmaaMgJ
namespace Go.Proofs.Ytecaegjonhimmaa
set_option linter.unusedVariables false
set_option linter.unusedSimpArgs false
open Go.RowKit Go.Shelf

/-- what Next answers, and leaves -/
def NextR (S : Sys) (dn : Bool) (hd hd' : Nat → Nat) (r : Ending) : Prop :=
  (∃ b, Best S dn hd b ∧ r = .returned (.tuple #[itV (S.X b (hd b)), .bool true]) ∧ hd' = updN hd b (hd b + 1)) ∨
  ((∀ s, s < S.K → S.len s ≤ hd s) ∧ r = .returned (.tuple #[itV (fun _ => 0), .bool false]) ∧ hd' = hd)
theorem head_cells {w : World} {g cap n : Nat} {H : Hs} {pl : Nat → Nat} {F : Nat → List Value} (h : HpIs w g cap n H pl F) (hn : 0 < n) :
    w.cell? ⟨g, 0, none⟩ = some (.int .u64 (H.it (pl 0) 0)) ∧ w.cell? ⟨g, 1, none⟩ = some (.int .u64 (H.it (pl 0) 1)) ∧ w.cell? ⟨g, 2, none⟩ = some (.int .u64 (H.it (pl 0) 2)) ∧ w.cell? ⟨g, 3, none⟩ = some (.int .u8 (H.it (pl 0) 3)) ∧ w.cell? ⟨g, 5, none⟩ = some (.func (.func (H.gs (pl 0))) #[] (H.lb (pl 0))) := by
  have c : ∀ m, m < 6 → w.cell? ⟨g, m, none⟩ = (hcl H (pl 0))[m]? := fun m hm => by
    have := h.cell hn hm
    rwa [Nat.zero_mul, Nat.zero_add] at this
  exact ⟨c 0 (by omega), c 1 (by omega), c 2 (by omega), c 3 (by omega), c 5 (by omega)⟩
theorem hcl_hs {S : Sys} {hd : Nat → Nat} {s t v : Nat} {src : Value} (h : t ≠ s) : hcl (S.hs hd src) t = hcl (S.hs (updN hd s v) src) t := by
  have e : (S.hs (updN hd s v) src).it t = (S.hs hd src).it t := hs_it h
  show [_, _, _, _, _, _] = [_, _, _, _, _, _]
  rw [e]; rfl
theorem HeIs.hs {w : World} {B g cap n : Nat} {dn : Bool} {S : Sys} {hd : Nat → Nat} {pl : Nat → Nat} {s v : Nat} (h : HeIs w B g cap n dn (S.hs hd (.slice none 0 0)) pl) (hne : ∀ i, i < n → pl i ≠ s) : HeIs w B g cap n dn (S.hs (updN hd s v) (.slice none 0 0)) pl := by
  obtain ⟨F, hr⟩ := h.row
  exact ⟨h.cells, ⟨F, hr.blk, hr.len, hr.le, hr.max, fun i hi => by rw [hr.at_ i hi]; exact hcl_hs (hne i hi)⟩, h.ne⟩
theorem ord_hs {n : Nat} {dn : Bool} {S : Sys} {hd : Nat → Nat} {pl : Nat → Nat} {s v : Nat} (h : Ord dn (S.hs hd (.slice none 0 0)) n pl) (hne : ∀ i, i < n → pl i ≠ s) : Ord dn (S.hs (updN hd s v) (.slice none 0 0)) n pl := fun i h1 h2 => by
  rw [lessB_congr (H' := S.hs hd (.slice none 0 0)) (by rw [hs_it (hne i h2)]) (by rw [hs_it (hne _ (by have := par_lt h1; omega))])]
  exact h i h1 h2
/-- the first head's item stored anew -/
theorem HeIs.next {w : World} {B g cap n : Nat} {dn : Bool} {S : Sys} {hd : Nat → Nat} {pl : Nat → Nat} {v : Nat} {x : Nat → Int} (h : HeIs w B g cap n dn (S.hs hd (.slice none 0 0)) pl) (hn : 0 < n) (hi : Inj n pl) (hx : x = S.X (pl 0) v) :
    HeIs ((((w.setCell ⟨g, 0, none⟩ (.int .u64 (x 0))).setCell ⟨g, 1, none⟩ (.int .u64 (x 1))).setCell ⟨g, 2, none⟩ (.int .u64 (x 2))).setCell ⟨g, 3, none⟩ (.int .u8 (x 3))) B g cap n dn (S.hs (updN hd (pl 0) v) (.slice none 0 0)) pl := by
  obtain ⟨F, hr⟩ := h.row
  have hF := hr.at_ 0 hn
  unfold hcl at hF
  have hne := h.ne
  refine ⟨(((Blk.far h.cells (by dsimp only; exact hne) _).far (by dsimp only; exact hne) _).far (by dsimp only; exact hne) _).far (by dsimp only; exact hne) _, ⟨_, head_set hr.blk (by have := hr.le; omega) hF, updL_len hr.len rfl, hr.le, hr.max, fun i hi2 => ?_⟩, hne⟩
  by_cases e : i = 0
  · subst e
    unfold updL
    rw [if_pos rfl, hx]
    have e2 : updN hd (pl 0) v (pl 0) = v := if_pos rfl
    show _ = [.int .u64 (S.X (pl 0) (updN hd (pl 0) v (pl 0)) 0), .int .u64 (S.X (pl 0) (updN hd (pl 0) v (pl 0)) 1), .int .u64 (S.X (pl 0) (updN hd (pl 0) v (pl 0)) 2), .int .u8 (S.X (pl 0) (updN hd (pl 0) v (pl 0)) 3), .int .i64 (pl 0), (S.hs (updN hd (pl 0) v) (.slice none 0 0)).fv (pl 0)]
    rw [e2]; rfl
  · unfold updL
    rw [if_neg e, hr.at_ i hi2]
    exact hcl_hs (fun e2 => e (hi i 0 hi2 hn e2))
section
attribute [local go_sem] loadV_ptr storeV_ptr
set_option maxHeartbeats 8000000 in
theorem next_of (S : Sys) (B : Nat) (dn : Bool) (hd : Nat → Nat) (G : Nat → Prop) (w : World) (hS : S.Ok) (hBT : ¬ S.T B) (hBl : B < w.heap.size) (hTl : ∀ k, S.T k → k < w.heap.size) (hGl : ∀ k, G k → k < w.heap.size) (hGT : ∀ k, G k → ¬ S.T k)
    (hbeg : ∀ W, Below w.heap.size w W → Calls Try.prog 18 #[.pointer (some ⟨B, 0, none⟩)] W fun r w' => r = .returned (.tuple #[]) ∧ ∃ g n pl, MG S w' B g dn hd n pl ∧ (G g ∨ W.heap.size ≤ g ∨ g = B) ∧ Tch (fun k => S.T k ∨ k = B) W w') :
    Calls Try.prog 11 #[.pointer (some ⟨B, 0, none⟩)] w fun r w' => ∃ hd' g n pl, NextR S dn hd hd' r ∧ MG S w' B g dn hd' n pl ∧ (G g ∨ w.heap.size ≤ g ∨ g = B) ∧ Tch (fun k => S.T k ∨ k = B ∨ G k) w w' := by
  replace hbeg := Lib.hid hbeg
  go_enter Try.func11, Try.ntmps11
  go_wp2_with fail
  refine (hbeg.out _ (bel_alloc (Below.refl _ _) _)).mono ?_
  rintro e1 w1 ⟨rfl, g, n, pl, hM, hg, ht1⟩
  have hr0 : Blk w1 w.heap.size 34 #[.int .u64 0, .int .u64 0, .int .u64 0, .int .u8 0] := (Blk.new _ _ _).tch ht1 (fun h => by rcases h with h | h; exact absurd (hTl _ h) (by omega); omega)
  have hgr : g ≠ w.heap.size := by
    rcases hg with h | h | h
    · have := hGl _ h; omega
    · simp at h; omega
    · omega
  have hgT : ¬ S.T g := by
    rcases hg with h | h | h
    · exact hGT _ h
    · intro hT; have := hTl _ hT; simp at h; omega
    · rw [h]; exact hBT
  have hg2 : G g ∨ w.heap.size ≤ g ∨ g = B := by
    rcases hg with h | h | h
    · exact Or.inl h
    · right; left; simp at h; omega
    · exact Or.inr (Or.inr h)
  have ht1' : Tch (fun k => S.T k ∨ k = B ∨ G k) w w1 := (tch_of (bel_alloc (Below.refl _ _) _) _).trans (ht1.mono (fun k _ h => h.elim Or.inl (fun h => Or.inr (Or.inl h))))
  have hsz1 := ht1.size
  simp at hsz1
  clear ht1 hbeg hg
  rcases Nat.eq_zero_or_pos n with h0 | h0
  · subst h0
    have hall : ∀ s, s < S.K → S.len s ≤ hd s := fun s hs => by
      by_cases h : hd s < S.len s
      · obtain ⟨i, hi, _⟩ := (hM.mem s).2 ⟨hs, h⟩; omega
      · omega
    have hrow : ∃ A c, Blk w1 B 57 #[.slice A 0 c, .bool dn, .slice none 0 0] := by
      rcases hM.row with ⟨_, h⟩ | ⟨cap, h⟩
      · exact ⟨_, _, h⟩
      · exact ⟨_, _, h.cells⟩
    obtain ⟨A, c, hb⟩ := hrow
    have c0 : w1.cell? ⟨B, 0, none⟩ = some (.slice A 0 c) := Blk.cell hb 0
    have lB := hb.lt
    have r_r := rowAt_blk hr0
    have r0 := (hr0).cell 0
    have r1 := (hr0).cell 1
    have r2 := (hr0).cell 2
    have r3 := (hr0).cell 3
    have rf0 := (hr0).frozen 0
    have rf1 := (hr0).frozen 1
    have rf2 := (hr0).frozen 2
    have rf3 := (hr0).frozen 3
    have rl := (hr0).lt
    replace hM := Lib.hid hM
    replace ht1' := Lib.hid ht1'
    replace hr0 := Lib.hid hr0
    clear hb
    go_wp2_with fail
    refine abs_post (fun Y_ => Tch (fun k => k = w.heap.size) w1 Y_ ∧ Blk Y_ w.heap.size 34 #[.int .u64 0, .int .u64 0, .int .u64 0, .int .u8 0]) ⟨(((((Tch.refl (fun k => k = w.heap.size) _).set (fun _ => rfl) _).set (fun _ => rfl) _).set (fun _ => rfl) _).set (fun _ => rfl) _), (((hr0.out.set_ 0 _).set_ 1 _).set_ 2 _).set_ 3 _⟩ ?_
    rintro Y_ ⟨tY_, gP_⟩
    have HLV := loadVar_blk (ty := 34) Try.underlying34 rfl (by kernel_rfl) gP_ rfl
    refine bodyPost_ret (v := .tuple #[.agg #[.int .u64 0, .int .u64 0, .int .u64 0, .int .u8 0], .bool false]) (results_ct Try.results11 rfl HLV) rfl ⟨_, g, _, _, Or.inr ⟨hall, rfl, rfl⟩, hM.out.tch hS tY_ (by omega) hgr (fun k hT e => by have := hTl k hT; omega), hg2, ht1'.out.trans2 tY_ (fun k h e => absurd e (by omega))⟩
  · rcases hM.row with ⟨e, _⟩ | ⟨cap, hh⟩
    · omega
    have hbest := hM.best h0
    obtain ⟨F, hr⟩ := hh.row
    obtain ⟨a0, a1, a2, a3, a5⟩ := head_cells hr h0
    have cc := hr.le
    have hmx := hr.max
    unfold maxLen at hmx
    have hs := hbest.1
    have hlen := hbest.2.1
    have eS := hS.enters _ hs
    have cB0 : w1.cell? ⟨B, 0, none⟩ = some (.slice (some ⟨g, 0, none⟩) n cap) := Blk.cell hh.cells 0
    have lB := hh.cells.lt
    have lg := hh.lt
    obtain ⟨s, hsp⟩ : ∃ s, s = pl 0 := ⟨_, rfl⟩
    rw [← hsp] at a0 a1 a2 a3 a5 hbest hs hlen eS
    have e_it : (S.hs hd (.slice none 0 0)).it s = S.X s (hd s) := rfl
    rw [e_it] at a0 a1 a2 a3
    have e_gs : (S.hs hd (.slice none 0 0)).gs s = S.gs s := rfl
    have e_lb : (S.hs hd (.slice none 0 0)).lb s = S.lb s := rfl
    rw [e_gs, e_lb] at a5
    have cS := fun (W : World) (hW : Below w1.heap.size w1 W) => hS.call s hs W _ (hM.kept hS hW).st (by omega)
    have kp : min (hd s + 1) (S.len s) = hd s + 1 := by omega
    simp only [kp] at cS
    replace hsp := Lib.hid hsp
    replace hM := Lib.hid hM
    replace ht1' := Lib.hid ht1'
    replace hr0 := Lib.hid hr0
    replace hh := Lib.hid hh
    replace cS := Lib.hid cS
    replace hbest := Lib.hid hbest
    clear hr
    have hcap0 : 0 < cap := by omega
    obtain ⟨xo, hxo⟩ : ∃ xo, xo = S.X s (hd s) := ⟨_, rfl⟩
    rw [← hxo] at a0 a1 a2 a3
    replace hxo := Lib.hid hxo
    generalize S.gs s = gm at *
    generalize S.lb s = lm at *
    go_wp2_with fail
    refine (cS.out _ (bel_alloc (Below.refl _ _) _)).mono ?_
    rintro e3 w3 ⟨x, hx, rfl, hst3, ht3⟩
    have hT1 : ∀ k, S.T k → k < w.heap.size := hTl
    have hsz3 := ht3.size
    simp at hsz3
    have hh3 := Lib.hid ((hh.out.kept (bel_alloc (Below.refl _ _) _)).tch ht3 hBT hgT)
    have hr3 := Lib.hid (((hr0.out.alloc _).tch ht3 (fun h => by have := hT1 _ h; omega)) : Blk w3 w.heap.size 34 #[.int .u64 0, .int .u64 0, .int .u64 0, .int .u8 0])
    have ho3 := Lib.hid (((Blk.new _ _ _).tch ht3 (fun h => by have := hT1 _ h; omega)) : Blk w3 w1.heap.size 34 #[.int .u64 (xo 0), .int .u64 (xo 1), .int .u64 (xo 2), .int .u8 (xo 3)])
    have ht13 := Lib.hid ((ht1'.out.alloc _).trans2 ht3 (fun k _ h => Or.inl h))
    unfold itV
    replace hst3 := Lib.hid hst3
    replace hx := Lib.hid hx
    clear ht3 cS eS hh hr0 ht1' a0 a1 a2 a3 a5
    have hs0 : pl 0 = s := hsp.out.symm
    by_cases hmore : hd s + 1 < S.len s
    · have kd : decide (hd s + 1 < S.len s) = true := decide_eq_true hmore
      rw [kd]
      have hst4 : Hid (S.St w3 (fun t => min (updN hd s (hd s + 1) t + 1) (S.len t))) := Lib.hid (by
        have h := hst3.out
        rw [if_pos hmore] at h
        refine hS.cong _ _ _ (fun t ht => ?_) h
        unfold updN
        by_cases e : t = s
        · subst e; rw [if_pos rfl, if_pos rfl]; omega
        · rw [if_neg e, if_neg e])
      have hx2 : x = S.X s (hd s + 1) := hx.out hmore
      obtain ⟨F3, hrow3⟩ := hh3.out.row
      obtain ⟨q0, q1, q2, q3, _⟩ := head_cells hrow3 h0
      have z0 := hrow3.blk.frozen 0
      have z1 := hrow3.blk.frozen 1
      have z2 := hrow3.blk.frozen 2
      have z3 := hrow3.blk.frozen 3
      have lg3 := hrow3.blk.lt
      have lB3 := hh3.out.cells.lt
      have hgn : g ≠ w3.heap.size := by omega
      clear hrow3 hst3 hx
      replace hx2 := Lib.hid hx2
      go_upto_region 9 with fail
      refine abs_wp (fun Y => Tch (fun k => k = g) w3 Y ∧ HeIs Y B g cap n dn (S.hs (updN hd (pl 0) (hd s + 1)) (.slice none 0 0)) pl) ⟨(((((Tch.refl (fun k => k = g) w3).set (fun _ => rfl) _).set (fun _ => rfl) _).set (fun _ => rfl) _).set (fun _ => rfl) _).alloc _, (hh3.out.next h0 hM.out.inj (by rw [hs0]; exact hx2.out)).kept (bel_alloc (Below.refl _ _) _)⟩ ?_
      rintro Y ⟨tY, hhY⟩
      have cF := fix_any B g cap n dn _ pl h0 (by have := hM.out.le; have := hS.many; omega) Y hhY (fix_inv hM.out.ord hM.out.inj)
      replace tY := Lib.hid tY
      clear q0 q1 q2 q3 z0 z1 z2 z3 hhY
      go_wp2_with fail
      refine cF.mono ?_
      rintro e7 w7 ⟨rfl, ⟨pl2, hh7, hord7, hsm7⟩, ht7⟩
      have t37 := tY.out.trans ht7
      have hr7 := Lib.hid (hr3.out.tch t37 (fun e => by omega))
      have ho7 := ho3.out.tch t37 (fun e => by omega)
      have ht17 := Lib.hid (ht13.out.trans2 t37 (fun k hk e => by
        subst e
        rcases hg2 with h | h | h
        · exact Or.inr (Or.inr h)
        · omega
        · exact Or.inr (Or.inl h)))
      have hst7 := hS.stab _ _ _ hst4.out (t37.mono (fun k _ e hT => by subst e; exact hgT hT))
      rw [hs0] at hh7 hord7
      have hM7 : MG S w7 B g dn (updN hd s (hd s + 1)) n pl2 := ⟨Or.inr ⟨cap, hh7⟩, hord7, hsm7.2 hM.out.inj, fun t => by
        rw [hsm7.1 t, hM.out.mem t]
        unfold updN
        by_cases e : t = s
        · subst e; rw [if_pos rfl]; constructor <;> (rintro ⟨h1, h2⟩; exact ⟨h1, by omega⟩)
        · rw [if_neg e], hst7, hM.out.le⟩
      have hsz7 := t37.size
      replace hM7 := Lib.hid hM7
      have o0 := (ho7).cell 0
      have o1 := (ho7).cell 1
      have o2 := (ho7).cell 2
      have o3 := (ho7).cell 3
      have of0 := (ho7).frozen 0
      have of1 := (ho7).frozen 1
      have of2 := (ho7).frozen 2
      have of3 := (ho7).frozen 3
      have ol := (ho7).lt
      have r0 := (hr7.out).cell 0
      have r1 := (hr7.out).cell 1
      have r2 := (hr7.out).cell 2
      have r3 := (hr7.out).cell 3
      have rf0 := (hr7.out).frozen 0
      have rf1 := (hr7.out).frozen 1
      have rf2 := (hr7.out).frozen 2
      have rf3 := (hr7.out).frozen 3
      have rl := (hr7.out).lt
      clear ho7 hh7 hord7 hsm7 ht7 t37 hst7
      go_wp2_with fail
      refine abs_post (fun Y_ => Tch (fun k => k = w.heap.size) w7 Y_ ∧ Blk Y_ w.heap.size 34 #[.int .u64 (xo 0), .int .u64 (xo 1), .int .u64 (xo 2), .int .u8 (xo 3)]) ⟨(((((Tch.refl (fun k => k = w.heap.size) _).set (fun _ => rfl) _).set (fun _ => rfl) _).set (fun _ => rfl) _).set (fun _ => rfl) _), (((hr7.out.set_ 0 _).set_ 1 _).set_ 2 _).set_ 3 _⟩ ?_
      rintro Y_ ⟨tY_, gP_⟩
      have HLV := loadVar_blk (ty := 34) Try.underlying34 rfl (by kernel_rfl) gP_ rfl
      refine bodyPost_ret (v := .tuple #[.agg #[.int .u64 (xo 0), .int .u64 (xo 1), .int .u64 (xo 2), .int .u8 (xo 3)], .bool true]) (results_ct Try.results11 rfl HLV) rfl ⟨_, g, n, pl2, Or.inl ⟨s, hbest.out, by rw [← hxo.out]; rfl, rfl⟩, hM7.out.tch hS tY_ (by omega) hgr (fun k hT e => by have := hTl k hT; omega), hg2, ht17.out.trans2 tY_ (fun k h e => absurd e (by omega))⟩
    · have kd : decide (hd s + 1 < S.len s) = false := decide_eq_false hmore
      rw [kd]
      obtain ⟨n', hn'⟩ : ∃ n', n = n' + 1 := ⟨n - 1, by omega⟩
      subst hn'
      have hst4 : Hid (S.St w3 (fun t => min (updN hd s (hd s + 1) t + 1) (S.len t))) := Lib.hid (by
        have h := hst3.out
        rw [if_neg hmore] at h
        refine hS.cong _ _ _ (fun t ht => ?_) h
        unfold updN
        by_cases e : t = s
        · subst e; rw [if_pos rfl]; omega
        · rw [if_neg e])
      have lg3 := hh3.out.lt
      have lB3 := hh3.out.cells.lt
      clear hst3 hx
      go_upto_region 10 with fail
      refine abs_wp (fun Y => Below w3.heap.size w3 Y) (bel_alloc (Below.refl _ _) _) ?_
      intro Y bY
      have cF := pop_any B g cap n' dn _ pl (by have := hM.out.le; have := hS.many; omega) Y (hh3.out.kept bY) hM.out.ord
      replace bY := Lib.hid bY
      go_wp2_with fail
      refine cF.mono ?_
      rintro e7 w7 ⟨⟨v7, rfl⟩, ⟨pl2, hh7, hord7, hsm7⟩, ht7⟩
      have t37 := (tch_of bY.out (fun k => k = g ∨ k = B)).trans ht7
      have hr7 := Lib.hid (hr3.out.tch t37 (fun e => by omega))
      have ho7 := ho3.out.tch t37 (fun e => by omega)
      have ht17 := Lib.hid (ht13.out.trans2 t37 (fun k hk e => by
        rcases e with e | e
        · subst e
          rcases hg2 with h | h | h
          · exact Or.inr (Or.inr h)
          · omega
          · exact Or.inr (Or.inl h)
        · exact Or.inr (Or.inl e)))
      have hst7 := hS.stab _ _ _ hst4.out (t37.mono (fun k _ e hT => by rcases e with e | e <;> subst e; exact hgT hT; exact hBT hT))
      obtain ⟨hset, hinj⟩ := pop_set hM.out.inj hsm7
      have hne : ∀ i, i < n' → pl2 i ≠ s := fun i hi e => ((hset (pl2 i)).1 ⟨i, hi, rfl⟩).2 (by rw [hs0]; exact e)
      have hM7 : MG S w7 B g dn (updN hd s (hd s + 1)) n' pl2 := ⟨Or.inr ⟨cap, hh7.hs hne⟩, ord_hs hord7 hne, hinj, fun t => by
        rw [hset t, hM.out.mem t, hs0]
        unfold updN
        by_cases e : t = s
        · subst e; rw [if_pos rfl]; constructor
          · rintro ⟨_, h⟩; exact absurd rfl h
          · rintro ⟨_, h⟩; omega
        · rw [if_neg e]; exact ⟨fun h => h.1, fun h => ⟨h, e⟩⟩, hst7, by have := hM.out.le; omega⟩
      have hsz7 := t37.size
      replace hM7 := Lib.hid hM7
      have o0 := (ho7).cell 0
      have o1 := (ho7).cell 1
      have o2 := (ho7).cell 2
      have o3 := (ho7).cell 3
      have of0 := (ho7).frozen 0
      have of1 := (ho7).frozen 1
      have of2 := (ho7).frozen 2
      have of3 := (ho7).frozen 3
      have ol := (ho7).lt
      have r0 := (hr7.out).cell 0
      have r1 := (hr7.out).cell 1
      have r2 := (hr7.out).cell 2
      have r3 := (hr7.out).cell 3
      have rf0 := (hr7.out).frozen 0
      have rf1 := (hr7.out).frozen 1
      have rf2 := (hr7.out).frozen 2
      have rf3 := (hr7.out).frozen 3
      have rl := (hr7.out).lt
      clear ho7 hh7 hord7 hsm7 ht7 t37 hst7 hset hinj hne
      go_wp2_with fail
      refine abs_post (fun Y_ => Tch (fun k => k = w.heap.size) w7 Y_ ∧ Blk Y_ w.heap.size 34 #[.int .u64 (xo 0), .int .u64 (xo 1), .int .u64 (xo 2), .int .u8 (xo 3)]) ⟨(((((Tch.refl (fun k => k = w.heap.size) _).set (fun _ => rfl) _).set (fun _ => rfl) _).set (fun _ => rfl) _).set (fun _ => rfl) _), (((hr7.out.set_ 0 _).set_ 1 _).set_ 2 _).set_ 3 _⟩ ?_
      rintro Y_ ⟨tY_, gP_⟩
      have HLV := loadVar_blk (ty := 34) Try.underlying34 rfl (by kernel_rfl) gP_ rfl
      refine bodyPost_ret (v := .tuple #[.agg #[.int .u64 (xo 0), .int .u64 (xo 1), .int .u64 (xo 2), .int .u8 (xo 3)], .bool true]) (results_ct Try.results11 rfl HLV) rfl ⟨_, g, n', pl2, Or.inl ⟨s, hbest.out, by rw [← hxo.out]; rfl, rfl⟩, hM7.out.tch hS tY_ (by omega) hgr (fun k hT e => by have := hTl k hT; omega), hg2, ht17.out.trans2 tY_ (fun k h e => absurd e (by omega))⟩
end
end Go.Proofs.Ytecaegjonhimmaa
