/-
  Sources in general; what a merge holds; begin, walked.
-/
import Derived.Test.YtecaegjonhimmaaMgH
namespace Go.Proofs.Ytecaegjonhimmaa
set_option linter.unusedVariables false
set_option linter.unusedSimpArgs false
open Go.RowKit Go.Shelf

/-- sources of items -/
structure Sys where
  K : Nat
  gs : Nat → FuncId
  lb : Nat → Array Value
  X : Nat → Nat → Nat → Int
  len : Nat → Nat
  T : Nat → Prop
  St : World → (Nat → Nat) → Prop
def Sys.fv (S : Sys) (s : Nat) : Value := .func (.func (S.gs s)) #[] (S.lb s)
def updN (p : Nat → Nat) (s v : Nat) : Nat → Nat := fun t => if t = s then v else p t
/-- an item, as a value -/
def itV (x : Nat → Int) : Value := .agg #[.int .u64 (x 0), .int .u64 (x 1), .int .u64 (x 2), .int .u8 (x 3)]
/-- what is asked of the sources -/
structure Sys.Ok (S : Sys) : Prop where
  many : S.K ≤ 100
  enters : ∀ s, s < S.K → ∀ args w, (callFunc (S.gs s) args).run Try.prog w = .ok (.enter (S.gs s) args) w
  call : ∀ s, s < S.K → ∀ (w : World) (pos : Nat → Nat), S.St w pos → pos s ≤ S.len s →
    Calls Try.prog (S.gs s) (S.lb s) w fun r w' => ∃ x, (pos s < S.len s → x = S.X s (pos s)) ∧ r = .returned (.tuple #[itV x, .bool (decide (pos s < S.len s))]) ∧ S.St w' (if pos s < S.len s then updN pos s (pos s + 1) else pos) ∧ Tch S.T w w'
  cong : ∀ w pos pos', (∀ s, s < S.K → pos s = pos' s) → S.St w pos → S.St w pos'
  stab : ∀ w w' pos, S.St w pos → Tch (fun k => ¬ S.T k) w w' → S.St w' pos
  tlt : ∀ w pos, S.St w pos → ∀ k, S.T k → k < w.heap.size
/-- the heads' sources, where so many were handed on -/
def Sys.hs (S : Sys) (hd : Nat → Nat) (src : Value) : Hs := ⟨fun s => S.X s (hd s), S.gs, S.lb, src⟩
section
variable {w w' : World} {B base n : Nat} {dn : Bool} {H : Hs} {pl pl' : Nat → Nat}
theorem HSt.congr (h : HSt w B base n dn H pl) (e : ∀ i, i < n → pl i = pl' i) : HSt w B base n dn H pl' := by
  rcases h with h | ⟨g, cap, hg, h⟩
  · exact Or.inl h
  · obtain ⟨F, hr⟩ := h.row
    exact Or.inr ⟨g, cap, hg, h.cells, ⟨F, hr.blk, hr.len, hr.le, hr.max, fun i hi => by rw [hr.at_ i hi, e i hi]⟩, h.ne⟩
theorem HSt.tch {S : Nat → Prop} (h : HSt w B base n dn H pl) (ht : Tch S w w') (hB : ¬ S B) (hs : ∀ k, k < w.heap.size → base ≤ k → ¬ S k) : HSt w' B base n dn H pl := by
  rcases h with ⟨h0, h⟩ | ⟨g, cap, hg, h⟩
  · exact Or.inl ⟨h0, h.tch ht hB⟩
  · obtain ⟨F, hr⟩ := h.row
    exact Or.inr ⟨g, cap, hg, h.cells.tch ht hB, ⟨F, hr.tch ht (hs g h.lt hg)⟩, h.ne⟩
theorem HSt.kept (h : HSt w B base n dn H pl) (hb : Below w.heap.size w w') : HSt w' B base n dn H pl := h.tch (S := fun _ => False) (tch_of hb _) id (fun _ _ _ => id)
theorem HSt.ltB (h : HSt w B base n dn H pl) : B < w.heap.size := by
  rcases h with ⟨_, h⟩ | ⟨g, cap, _, h⟩
  · exact h.lt
  · exact h.cells.lt
theorem Ord.congr (h : Ord dn H n pl) (e : ∀ i, i < n → pl i = pl' i) : Ord dn H n pl' := fun i h1 h2 => by rw [← e i h2, ← e _ (by have := par_lt h1; omega)]; exact h i h1 h2
theorem Inj.congr (h : Inj n pl) (e : ∀ i, i < n → pl i = pl' i) : Inj n pl' := fun i j h1 h2 h3 => h i j h1 h2 (by rw [e i h1, e j h2]; exact h3)
end
/-- what a merge that has begun holds: so many were handed on -/
def MSt (S : Sys) (w : World) (B base : Nat) (dn : Bool) (hd : Nat → Nat) : Prop :=
  ∃ n pl, HSt w B base n dn (S.hs hd (.slice none 0 0)) pl ∧ Ord dn (S.hs hd (.slice none 0 0)) n pl ∧ Inj n pl ∧ (∀ s, (∃ i, i < n ∧ pl i = s) ↔ s < S.K ∧ hd s < S.len s) ∧ S.St w (fun s => min (hd s + 1) (S.len s)) ∧ n ≤ S.K
/-- .. one that has not -/
def MNew (S : Sys) (w : World) (B base : Nat) (dn : Bool) : Prop :=
  ∃ A c, HsIs w B (.slice none 0 0) dn (.slice A S.K c) ∧ (0 < S.K → ∃ b o, A = some ⟨b, o, none⟩ ∧ b < base ∧ ¬ S.T b ∧ b ≠ B ∧ ∀ s, s < S.K → w.cell? ⟨b, o + s, none⟩ = some (S.fv s)) ∧ S.St w (fun _ => 0)
/-- what a merge may turn -/
def MT (S : Sys) (B base : Nat) : Nat → Prop := fun k => S.T k ∨ k = B ∨ base ≤ k
theorem load_It (ρ : Operand → Value) (dst : Option Tmp) (x : Operand) (t : TypeId) (pos : String) (after : Array Edge) (guard : Option (Nat × Bool)) (w : World) :
    (execOp ρ { dst, op := Op.load 34 x, type := t, pos, after, guard }).run Try.prog w = (loadV Try.prog 34 4 w (ρ x)).andThen fun v w' => .ok (.value v) w' :=
  exec_load_row Try.underlying34 rfl (by kernel_rfl) ρ dst x t pos after guard w
theorem store_It (ρ : Operand → Value) (dst : Option Tmp) (p x : Operand) (t : TypeId) (pos : String) (after : Array Edge) (guard : Option (Nat × Bool)) (w : World) :
    (execOp ρ { dst, op := Op.store 34 p x, type := t, pos, after, guard }).run Try.prog w = (storeV Try.prog 34 4 w (ρ p) (ρ x)).andThen fun _ w' => .ok .skip w' :=
  exec_store_row (by kernel_rfl) ρ dst p x t pos after guard w
set_option maxHeartbeats 4000000 in
theorem begin_done (S : Sys) (B base : Nat) (dn : Bool) (hd : Nat → Nat) (w : World) (h : MSt S w B base dn hd) (hS : S.Ok) (hB : B < base) (hBT : ¬ S.T B) :
    Calls Try.prog 18 #[.pointer (some ⟨B, 0, none⟩)] w fun r w' => r = .returned (.tuple #[]) ∧ MSt S w' B base dn hd ∧ Tch (fun k => k = B) w w' := by
  obtain ⟨n, pl, hh, ho, hi, hs, hst, hn⟩ := h
  obtain ⟨A, c, hb, hown⟩ := hh.own
  have hl := hb.lt
  have c2 : w.cell? ⟨B, 2, none⟩ = some (.slice none 0 0) := Blk.cell hb 2
  have f2 := Blk.frozen hb 2
  have hfin : Hid (MSt S (w.setCell ⟨B, 2, none⟩ (.slice none 0 0)) B base dn hd) := Lib.hid (by
    have e : Blk (w.setCell ⟨B, 2, none⟩ (.slice none 0 0)) B 57 #[.slice A n c, .bool dn, .slice none 0 0] := Blk.set' hb 2 _ rfl
    refine ⟨n, pl, ?_, ho, hi, hs, hS.stab _ _ _ hst ((Tch.refl _ _).set (fun _ => hBT) _), hn⟩
    rcases hh with ⟨h0, h⟩ | ⟨g, cap, hg, h⟩
    · exact Or.inl ⟨h0, Blk.set' h 2 _ rfl⟩
    · obtain ⟨F, hr⟩ := h.row
      exact Or.inr ⟨g, cap, hg, Blk.set' h.cells 2 _ rfl, ⟨F, hr.blk.far (Ne.symm h.ne) _, hr.len, hr.le, hr.max, hr.at_⟩, h.ne⟩)
  clear hh hb hown hst
  go_enter Try.func18, Try.ntmps18
  go_wp2_with fail
  refine wp_loop_rounds 1 ?_
  rw [rounds_succ]
  go_wp2_with fail
  go_end0
  exact ⟨rfl, hfin.out, (Tch.refl (fun k => k = B) _).set (p := ⟨B, 2, none⟩) (fun _ => rfl) _⟩
theorem itV_row (x : Nat → Int) : itV x = .agg #[.int .u64 (x 0), .int .u64 (x 1), .int .u64 (x 2), .int .u8 (x 3)] := rfl
section
attribute [local go_sem] loadV_ptr storeV_ptr
attribute [local go_sem ↓] load_It store_It
set_option maxHeartbeats 8000000 in
theorem begin_new (S : Sys) (B base : Nat) (dn : Bool) (w : World) (h : MNew S w B base dn) (hS : S.Ok) (hB : B < base) (hBT : ¬ S.T B) (hTb : ∀ k, S.T k → k < base) (hbase : base ≤ w.heap.size) :
    Calls Try.prog 18 #[.pointer (some ⟨B, 0, none⟩)] w fun r w' => r = .returned (.tuple #[]) ∧ MSt S w' B base dn (fun _ => 0) ∧ Tch (MT S B base) w w' := by
  obtain ⟨A, c, hb, hsrc, hst⟩ := h
  have hK := hS.many
  have hBl : B < w.heap.size := Nat.lt_of_lt_of_le hB hbase
  have c2 : w.cell? ⟨B, 2, none⟩ = some (.slice A S.K c) := Blk.cell hb 2
  obtain ⟨H0, hH0⟩ : ∃ H0, H0 = S.hs (fun _ => 0) (.slice A S.K c) := ⟨_, rfl⟩
  have hb0 : HSt w B base 0 dn H0 (fun _ => 0) := Or.inl ⟨rfl, by rw [hH0]; exact hb⟩
  replace hH0 := Lib.hid hH0
  replace hb0 := Lib.hid hb0
  replace hst := Lib.hid hst
  replace hsrc := Lib.hid hsrc
  replace hS := Lib.hid hS
  clear hb
  go_enter Try.func18, Try.ntmps18
  go_wp2_with fail
  go_loopw [11] (fun i wr => ∃ (m n : Nat) (pl : Nat → Nat), m ≤ S.K ∧ i = .int .i64 m ∧ n ≤ m ∧ Hid (HSt wr B base n dn H0 pl) ∧ Hid (Ord dn H0 n pl) ∧ Hid (Inj n pl) ∧ Hid (∀ s, (∃ j, j < n ∧ pl j = s) ↔ s < m ∧ 0 < S.len s) ∧ Hid (S.St wr (fun s => if s < m then min 1 (S.len s) else 0)) ∧ Hid (Tch (MT S B base) w wr)) (fun i _ => S.K - (intOf i).toNat)
  case atStart => exact ⟨0, 0, fun _ => 0, by omega, rfl, by omega, hb0.out, fun i h1 h2 => by omega, fun i j h1 => by omega, fun s => ⟨fun ⟨j, h, _⟩ => by omega, fun h => by omega⟩, Lib.hid (by simpa using hst.out), Tch.refl _ _⟩
  case round =>
    clear hb0 hst
    obtain ⟨m, n, pl, hm, rfl, hn, hh, ho, hi, hs, hst, ht⟩ := hrel
    by_cases hlt : m < S.K
    · obtain ⟨b, o, rfl, hbb, hbT, hbB, hcs⟩ := hsrc.out (by omega)
      have hbw : b < w.heap.size := Nat.lt_of_lt_of_le hbb hbase
      have hnS : ¬ MT S B base b := by unfold MT; rintro (h | h | h) <;> first | exact hbT h | omega
      have hcm : wr.cell? ⟨b, o + m, none⟩ = some (.func (.func (S.gs m)) #[] (S.lb m)) := (ht.out.cell (p := ⟨b, o + m, none⟩) hbw hnS).trans (hcs m hlt)
      have eS := hS.out.enters m hlt
      have cS := hS.out.call m hlt wr _ hst.out (by simp)
      simp only [Nat.lt_irrefl, if_false] at cS
      clear hcs
      have hc6 : hcl H0 m = [.int .u64 (S.X m 0 0), .int .u64 (S.X m 0 1), .int .u64 (S.X m 0 2), .int .u8 (S.X m 0 3), .int .i64 m, .func (.func (S.gs m)) #[] (S.lb m)] := by rw [hH0.out]; rfl
      replace hc6 := Lib.hid hc6
      generalize S.gs m = gm at *
      generalize S.lb m = lm at *
      go_wp2_with fail
      refine cS.mono ?_
      rintro e2 w2 ⟨x, hx, rfl, hst2, ht2⟩
      have ht3 := Lib.hid (ht.out.trans2 ht2 (fun k _ h => Or.inl h))
      have hh2 := Lib.hid (hh.out.tch ht2 hBT (fun k _ h1 h2 => absurd (hTb k h2) (by omega)))
      have hbs2 : base ≤ w2.heap.size := Nat.le_trans hbase ht3.out.size
      unfold itV
      rcases Nat.eq_zero_or_pos (S.len m) with h0 | h0
      · have hst3 : S.St w2 (fun s => if s < m + 1 then min 1 (S.len s) else 0) := by
          rw [if_neg (by omega)] at hst2
          have e : (fun s => if s < m then min 1 (S.len s) else 0) = (fun s => if s < m + 1 then min 1 (S.len s) else 0) := by
            funext s
            by_cases e1 : s < m
            · rw [if_pos e1, if_pos (by omega)]
            · by_cases e2 : s = m
              · subst e2; rw [if_neg e1, if_pos (by omega), h0]; rfl
              · rw [if_neg e1, if_neg (by omega)]
          rw [← e]; exact hst2
        have kd : decide (0 < S.len m) = false := decide_eq_false (by omega)
        rw [kd]
        replace hst3 := Lib.hid hst3
        clear hst2 ht2 cS eS hx
        go_wp2_with fail
        go_roundw
        case rel => exact ⟨m + 1, n, pl, by omega, by go_num, by omega, Lib.hid (hh2.out.kept (bel_alloc (Below.refl _ _) _)), ho, hi, Lib.hid (fun s => (hs.out s).trans ⟨fun h => ⟨by omega, h.2⟩, fun h => ⟨by
          have : s ≠ m := fun e => by subst e; omega
          omega, h.2⟩⟩), Lib.hid (hS.out.stab _ _ _ hst3.out (tch_of (bel_alloc (Below.refl _ _) _) _)), Lib.hid (ht3.out.alloc _)⟩
        case measure => simp [intOf]; omega
      · obtain rfl := hx h0
        have hst3 : S.St w2 (fun s => if s < m + 1 then min 1 (S.len s) else 0) := by
          rw [if_pos h0] at hst2
          have e : updN (fun s => if s < m then min 1 (S.len s) else 0) m (0 + 1) = (fun s => if s < m + 1 then min 1 (S.len s) else 0) := by
            funext s
            unfold updN
            by_cases e2 : s = m
            · subst e2; rw [if_pos rfl, if_pos (by omega)]; omega
            · rw [if_neg e2]
              dsimp only
              by_cases e1 : s < m
              · rw [if_pos e1, if_pos (by omega)]
              · rw [if_neg e1, if_neg (by omega)]
          rw [← e]; exact hst2
        have kd : decide (0 < S.len m) = true := decide_eq_true h0
        rw [kd]
        replace hst3 := Lib.hid hst3
        clear hst2 ht2 cS eS
        go_upto_region 5 with fail
        refine abs_wp (fun Y => Below w2.heap.size w2 Y ∧ Blk Y w2.heap.size 34 #[.int .u64 (S.X m 0 0), .int .u64 (S.X m 0 1), .int .u64 (S.X m 0 2), .int .u8 (S.X m 0 3)]) ⟨bel_alloc (Below.refl _ _) _, Blk.new _ _ _⟩ ?_
        rintro Y ⟨hbY, gY⟩
        have rY := rowAt_blk gY
        have lY := gY.lt
        have hstY := Lib.hid (hS.out.stab _ _ _ hst3.out (tch_of hbY _))
        have hhY := Lib.hid (hh2.out.kept hbY)
        have htY := Lib.hid (ht3.out.bel hbY)
        have hbsY : base ≤ Y.heap.size := Nat.le_trans hbs2 hbY.size
        obtain ⟨pl2, hpl2⟩ : ∃ pl2 : Nat → Nat, pl2 = updN pl n m := ⟨_, rfl⟩
        have hsame : ∀ i, i < n → pl i = pl2 i := fun i hi2 => by rw [hpl2]; unfold updN; rw [if_neg (by omega)]
        have hpn : pl2 n = m := by rw [hpl2]; exact if_pos rfl
        have cP := fun d => push_any B base n dn H0 pl2 hB (by omega) (Grow Y d) (Nat.le_trans hbsY (grow_size Y d)) ((hhY.out.congr hsame).kept (grow_below Y d)) (ho.out.congr hsame)
        rw [hpn, hc6.out] at cP
        replace cP := Lib.hid cP
        replace hbY := Lib.hid hbY
        clear hst3 hh2 ht3 gY
        first | (with_reducible refine rtail2 9 (by kernel_rfl) (by kernel_rfl) ?_) | (refine rtail 9 (by kernel_rfl) (by kernel_rfl) ?_)
        simp only [List.take_succ_cons, List.take_zero, List.drop_succ_cons, List.drop_zero]
        repeat (go_big_quiet_step ((fail)))
        refine wpQuiet_nil ?_
        intro dr
        go_wp2_with fail
        refine (cP.out _).mono ?_
        rintro e4 w4 ⟨rfl, ⟨pl3, hh4, ho4, hs4⟩, ht4⟩
        have hst4 : S.St w4 (fun s => if s < m + 1 then min 1 (S.len s) else 0) := hS.out.stab _ _ _ (hS.out.stab _ _ _ hstY.out (tch_of (grow_below _ _) _)) (ht4.mono (fun k _ h hT => by have := hTb k hT; rcases h with h | h <;> first | (subst h; exact hBT hT) | omega))
        have ht5 : Tch (MT S B base) w w4 := (htY.out.bel (grow_below _ _)).trans2 ht4 (fun k _ h => Or.inr h)
        have hi2 : Inj (n + 1) pl2 := fun i j h1 h2 h3 => by
          have hlo : ∀ i, i < n → pl2 i < m := fun i h => by rw [← hsame i h]; exact ((hs.out (pl i)).1 ⟨i, h, rfl⟩).1
          by_cases e1 : i = n <;> by_cases e2 : j = n
          · omega
          · subst e1; have := hlo j (by omega); rw [← h3, hpn] at this; omega
          · subst e2; have := hlo i (by omega); rw [h3, hpn] at this; omega
          · exact hi.out i j (by omega) (by omega) (by rw [hsame i (by omega), hsame j (by omega)]; exact h3)
        have hmem : ∀ s, (∃ j, j < n + 1 ∧ pl3 j = s) ↔ s < m + 1 ∧ 0 < S.len s := fun s => by
          rw [hs4.1 s]
          constructor
          · rintro ⟨j, h1, rfl⟩
            by_cases e1 : j = n
            · subst e1; rw [hpn]; exact ⟨by omega, h0⟩
            · have := (hs.out (pl j)).1 ⟨j, by omega, rfl⟩
              rw [← hsame j (by omega)]
              exact ⟨by omega, this.2⟩
          · rintro ⟨h1, h2⟩
            by_cases e1 : s = m
            · subst e1; exact ⟨n, by omega, hpn⟩
            · obtain ⟨j, h3, h4⟩ := (hs.out s).2 ⟨by omega, h2⟩
              exact ⟨j, by omega, by rw [← hsame j h3]; exact h4⟩
        replace hmem := Lib.hid hmem
        replace hst4 := Lib.hid hst4
        replace ht5 := Lib.hid ht5
        replace hh4 := Lib.hid hh4
        replace ho4 := Lib.hid ho4
        have hi4 := Lib.hid (hs4.2 hi2)
        clear ht4 hs4 hi2 hpl2
        go_wp2_with fail
        go_roundw
        case rel => exact ⟨m + 1, n + 1, pl3, by omega, by go_num, by omega, hh4, ho4, hi4, hmem, hst4, ht5⟩
        case measure => simp [intOf]; omega
    · obtain rfl : m = S.K := by omega
      obtain ⟨A2, cc, hb, hown⟩ := hh.out.own
      have lB := hb.lt
      have d2 : wr.cell? ⟨B, 2, none⟩ = some H0.src := Blk.cell hb 2
      have f2 := Blk.frozen hb 2
      have hsr : H0.src = .slice A S.K c := by rw [hH0.out]; rfl
      rw [hsr] at d2
      have hfin : MSt S (wr.setCell ⟨B, 2, none⟩ (.slice none 0 0)) B base dn (fun _ => 0) := by
        have hst5 : S.St (wr.setCell ⟨B, 2, none⟩ (.slice none 0 0)) (fun s => min (0 + 1) (S.len s)) := hS.out.cong _ _ _ (fun s h => by rw [if_pos h]) (hS.out.stab _ _ _ hst.out ((Tch.refl _ _).set (p := ⟨B, 2, none⟩) (fun _ => hBT) _))
        have ho5 := ho.out
        have hh5 := hh.out
        rw [hH0.out] at ho5 hh5
        refine ⟨n, pl, ?_, ho5, hi.out, hs.out, hst5, hn⟩
        rcases hh5 with ⟨h0, h⟩ | ⟨g, cap, hg, h⟩
        · exact Or.inl ⟨h0, Blk.set' h 2 _ rfl⟩
        · obtain ⟨F, hr⟩ := h.row
          exact Or.inr ⟨g, cap, hg, Blk.set' h.cells 2 _ rfl, ⟨F, hr.blk.far (Ne.symm h.ne) _, hr.len, hr.le, hr.max, hr.at_⟩, h.ne⟩
      have ht6 := ht.out.set (p := ⟨B, 2, none⟩) (fun _ => Or.inr (Or.inl rfl)) (.slice none 0 0)
      replace hfin := Lib.hid hfin
      replace ht6 := Lib.hid ht6
      clear hb hown hh hst
      go_wp2_with fail
      go_end0
      exact ⟨rfl, hfin.out, ht6.out⟩
end
end Go.Proofs.Ytecaegjonhimmaa
