/-
  Lists of items; Most, walked.
-/
import Derived.Test.YtecaegjonhimmaaMgL
namespace Go.Proofs.Ytecaegjonhimmaa
set_option linter.unusedVariables false
set_option linter.unusedSimpArgs false
open Go.RowKit Go.Shelf

/-- the cells of an item -/
def icl (x : Nat → Int) : List Value := [.int .u64 (x 0), .int .u64 (x 1), .int .u64 (x 2), .int .u8 (x 3)]
theorem icl_len (x : Nat → Int) : (icl x).length = 4 := rfl
theorem icl_one (x : Nat → Int) : ∀ u ∈ icl x, u.oneCell' = true := by
  intro u hu
  simp only [icl, List.mem_cons, List.not_mem_nil, or_false] at hu
  rcases hu with rfl | rfl | rfl | rfl <;> rfl
def atL (l : List (Nat → Int)) (i : Nat) : Nat → Int := l.getD i (fun _ => 0)
theorem atL_old {l : List (Nat → Int)} {x : Nat → Int} {i : Nat} (h : i < l.length) : atL (l ++ [x]) i = atL l i := by
  unfold atL; rw [List.getD_eq_getElem?_getD, List.getD_eq_getElem?_getD, List.getElem?_append_left h]
theorem atL_new {l : List (Nat → Int)} {x : Nat → Int} : atL (l ++ [x]) l.length = x := by
  unfold atL; rw [List.getD_eq_getElem?_getD, List.getElem?_append_right (Nat.le_refl _), Nat.sub_self]; rfl
/-- a list of items in a row of the call's own -/
def LI (e : TypeId) (w : World) (v : Value) (l : List (Nat → Int)) : Prop := OwnS w 0 e 4 v l.length (fun i => icl (atL l i))
theorem OwnS.congr {w : World} {base : Nat} {e : TypeId} {k : Nat} {v : Value} {n : Nat} {f f' : Nat → List Value} (h : OwnS w base e k v n f) (he : ∀ i, i < n → f i = f' i) : OwnS w base e k v n f' := by
  have e1 : (List.range n).flatMap f = (List.range n).flatMap f' := rowC_congr he
  unfold OwnS at h ⊢
  rw [← e1]; exact h
theorem LI.nil (e : TypeId) (w : World) : LI e w (.slice none 0 0) [] := OwnS.nil _ _ _ _ _
theorem OwnS.tch {S : Nat → Prop} {w w' : World} {base : Nat} {e : TypeId} {k : Nat} {v : Value} {n : Nat} {f : Nat → List Value} (h : OwnS w base e k v n f) (ht : Tch S w w') (hs : ∀ b, v.ownBlock = some b → ¬ S b) : OwnS w' base e k v n f := by
  obtain ⟨hl, h2⟩ := h
  refine ⟨hl, h2.imp id ?_⟩
  rintro ⟨g, cap, cur, rfl, hb, hh, h3⟩
  have hlt : g < w.heap.size := (Array.getElem?_eq_some_iff.1 hh).1
  exact ⟨g, cap, cur, rfl, hb, (ht.block g hlt (hs g rfl)).trans hh, h3⟩
theorem LI.tch {S : Nat → Prop} {w w' : World} {e : TypeId} {v : Value} {l : List (Nat → Int)} (h : LI e w v l) (ht : Tch S w w') (hs : ∀ b, v.ownBlock = some b → ¬ S b) : LI e w' v l := OwnS.tch h ht hs
theorem LI.kept {w w' : World} {e : TypeId} {v : Value} {l : List (Nat → Int)} (h : LI e w v l) (hb : Below w.heap.size w w') : LI e w' v l := OwnS.kept h hb
theorem LI.form {w : World} {e : TypeId} {v : Value} {l : List (Nat → Int)} (h : LI e w v l) : ∃ A c, v = .slice A l.length c ∧ l.length ≤ c ∧ c ≤ maxLen := by
  obtain ⟨A, c, h1, h2, h3, _⟩ := OwnS.ssis h (fun _ => rfl)
  exact ⟨A, c, h1, h2, h3⟩
theorem LI.lt {w : World} {e : TypeId} {v : Value} {l : List (Nat → Int)} (h : LI e w v l) : ∀ b, v.ownBlock = some b → b < w.heap.size := by
  obtain ⟨hl, h2⟩ := h
  rcases h2 with ⟨rfl, _⟩ | ⟨g, cap, cur, rfl, hb, hh, h3⟩
  · intro b hb; simp [Value.ownBlock] at hb
  · intro b hb2
    simp [Value.ownBlock] at hb2
    subst hb2
    exact (Array.getElem?_eq_some_iff.1 hh).1
theorem tch_grown {w w' : World} {row : Option Nat} (h : w.grownBy w' row) : Tch (fun k => row = some k) w w' := ⟨h.os, h.tape, h.output, h.size, fun k hk hn => h.block k hk (fun e => hn e.symm)⟩
theorem run_appI {w : World} {t e by_ : Nat} {v z : Value} {g c : Nat} {l : List (Nat → Int)} {x : Nat → Int} {t0 : TypeId} (ty : TypeId) (hu : Try.prog.underlying t = some (.slice e)) (hi5 : (Try.prog.info? e).map (fun i => (i.zero, i.size, i.bytes)) = some (some z, 4, by_)) (hz : z.cells.size = 4) (hby : by_ ≤ 256)
    (ho : LI e w v l) (hB : Blk w g t0 (icl x).toArray) (h : l.length ≤ 1000000) :
    ∃ v' w', (Builtin.append_ #[t, t] ty #[v, .slice (some ⟨g, 0, none⟩) 1 c]).run Try.prog w = .ok v' w' ∧ LI e w' v' (l ++ [x]) ∧ Tch (fun k => v.ownBlock = some k) w w' ∧ (v'.ownBlock = v.ownBlock ∨ v'.ownBlock = some w.heap.size) := by
  obtain ⟨i0, hi0, hz0, hz1, hz2⟩ := info_parts hi5
  have hb : (l.length + 1) * by_ ≤ 140737488355328 := Nat.le_trans (Nat.mul_le_mul (show l.length + 1 ≤ 1000001 by omega) hby) (by decide)
  obtain ⟨v', w', hr, h2, h3, _, h4⟩ := run_append_own_at (P := Try.prog) w 0 t ty e i0 _ 4 by_ hu hi0 hz0 hz1 hz2 hz (by omega) v l.length _ ho ⟨g, 0, none⟩ 1 c (icl x) rfl (news_blk hB) (icl_one x) (by unfold maxLen; omega) hb (Nat.zero_le _)
  refine ⟨v', w', hr, ?_, tch_grown h3, h4⟩
  have e1 : (List.range l.length).flatMap (fun i => icl (atL l i)) ++ icl x = (List.range (l.length + 1)).flatMap (fun i => icl (atL (l ++ [x]) i)) := by
    rw [List.range_succ, List.flatMap_append]
    have e2 : (List.range l.length).flatMap (fun i => icl (atL l i)) = (List.range l.length).flatMap (fun i => icl (atL (l ++ [x]) i)) := rowC_congr (fun i hi => by rw [atL_old hi])
    rw [e2]
    simp only [List.flatMap_cons, List.flatMap_nil, List.append_nil, atL_new]
  unfold LI OwnS
  rw [List.length_append]
  show w'.ownsRow 0 e 4 v' (l.length + 1) ((List.range (l.length + 1)).flatMap _)
  rw [← e1]
  exact h2
section
variable {ops : Array Oper} {rest : List Oper} {o : Oper} {a : Act} {w : World} {Q : Exit → Act → World → Prop} {K : Act → World → Prop}
theorem wpList_appI (hgd : o.guard = none) (s y : Operand) {t e by_ : Nat} {z : Value} {t0 : TypeId} (hu : Try.prog.underlying t = some (.slice e)) (hi5 : (Try.prog.info? e).map (fun i => (i.zero, i.size, i.bytes)) = some (some z, 4, by_)) (hz : z.cells.size = 4) (hby : by_ ≤ 256)
    (ho : o.op = .call { callee := .builtin .append, args := #[s, y], argTypes := #[t, t] })
    {v : Value} {g c : Nat} {l : List (Nat → Int)} {x : Nat → Int} (hs : a.eval s = v) (hy : a.eval y = .slice (some ⟨g, 0, none⟩) 1 c) (hO : LI e w v l) (hB : Blk w g t0 (icl x).toArray) (h : l.length ≤ 1000000)
    (hK : ∀ v' w', LI e w' v' (l ++ [x]) → Tch (fun k => v.ownBlock = some k) w w' → (v'.ownBlock = v.ownBlock ∨ v'.ownBlock = some w.heap.size) → wpList Try.prog ops Q rest (a.put o.dst v') w') : wpList Try.prog ops Q (o :: rest) a w := by
  obtain ⟨v', w', hr, h2, h3, h4⟩ := run_appI (c := c) o.type hu hi5 hz hby hO hB h
  exact Lib.wpList_append_run w hgd s y _ _ ho _ _ hs hy v' w' hr (hK v' w' h2 h3 h4)
theorem step_appI {E : Prop} (hgd : o.guard = none) (s y : Operand) {t e by_ : Nat} {z : Value} {t0 : TypeId} (hu : Try.prog.underlying t = some (.slice e)) (hi5 : (Try.prog.info? e).map (fun i => (i.zero, i.size, i.bytes)) = some (some z, 4, by_)) (hz : z.cells.size = 4) (hby : by_ ≤ 256)
    (ho : o.op = .call { callee := .builtin .append, args := #[s, y], argTypes := #[t, t] })
    {v : Value} {g c : Nat} {l : List (Nat → Int)} {x : Nat → Int} (hs : a.eval s = v) (hy : a.eval y = .slice (some ⟨g, 0, none⟩) 1 c) (hO : LI e w v l) (hB : Blk w g t0 (icl x).toArray) (h : l.length ≤ 1000000)
    (hK : ∀ v' w', LI e w' v' (l ++ [x]) → Tch (fun k => v.ownBlock = some k) w w' → (v'.ownBlock = v.ownBlock ∨ v'.ownBlock = some w.heap.size) → K (a.put o.dst v') w') :
    if Region.wanted o (yielded ops a.tmps) = true then Oper.wp Try.prog o a w K Q else E := by
  have hw : Region.wanted o (yielded ops a.tmps) = true := by simp [Region.wanted, hgd]
  rw [if_pos hw]
  obtain ⟨v', w', hr, h2, h3, h4⟩ := run_appI (c := c) o.type hu hi5 hz hby hO hB h
  exact Lib.wp_append_run w s y _ _ ho _ _ hs hy v' w' hr (hK v' w' h2 h3 h4)
end
/-- one after the other, the first of all heads each -/
inductive Runs (S : Sys) (dn : Bool) (hd0 : Nat → Nat) : List (Nat → Int) → (Nat → Nat) → Prop
  | nil : Runs S dn hd0 [] hd0
  | snoc {l hd b} : Runs S dn hd0 l hd → Best S dn hd b → Runs S dn hd0 (l ++ [S.X b (hd b)]) (updN hd b (hd b + 1))
def lenV : Value → Nat
  | .slice _ n _ => n
  | _ => 0
theorem info_Itm : (Try.prog.info? 34).map (fun i => (i.zero, i.size, i.bytes)) = some (some (.agg #[.int .u64 0, .int .u64 0, .int .u64 0, .int .u8 0]), 4, 32) := by kernel_rfl
section
attribute [local go_sem] loadV_ptr storeV_ptr
attribute [local go_sem ↓] load_It store_It
set_option maxHeartbeats 8000000 in
theorem most_at (S : Sys) (B : Nat) (dn : Bool) (hd : Nat → Nat) (G : Nat → Prop) (w : World) (n : Int) (hS : S.Ok) (hBT : ¬ S.T B) (h : MAt S w B dn hd G) (hn : n ≤ 100000) (hn0 : -100000 ≤ n) :
    Calls Try.prog 13 #[.pointer (some ⟨B, 0, none⟩), .int .i64 n] w fun r w' => ∃ l hd' v, Runs S dn hd l hd' ∧ ((l.length : Int) = max n 0 ∨ ((l.length : Int) < n ∧ ∀ s, s < S.K → S.len s ≤ hd' s)) ∧ r = .returned v ∧ LI 34 w' v l ∧ MAt S w' B dn hd' (fun k => G k ∨ w.heap.size ≤ k) ∧ Tch (fun k => S.T k ∨ k = B ∨ G k) w w' := by
  have hBl := h.ltB
  have hTl := h.ltT hS
  have hrel0 : ∃ (l : List (Nat → Int)) (hd' : Nat → Nat) (G' : Nat → Prop), Hid (Runs S dn hd l hd') ∧ (l.length : Int) ≤ max n 0 ∧ Hid (LI 34 w (.slice none 0 0) l) ∧ Hid (MAt S w B dn hd' G') ∧ Hid (∀ k, G' k → G k ∨ w.heap.size ≤ k) ∧ Hid (∀ k, (Value.slice none 0 0).ownBlock = some k → ¬ G' k ∧ w.heap.size ≤ k) ∧ Hid (Tch (fun k => S.T k ∨ k = B ∨ G k) w w) :=
    ⟨[], hd, G, .nil, by simp; omega, LI.nil _ _, h, fun k h => Or.inl h, fun k h => by simp [Value.ownBlock] at h, Tch.refl _ _⟩
  replace hTl := Lib.hid hTl
  clear h
  go_enter Try.func13, Try.ntmps13
  go_wp2_with fail
  go_loopw [5] (fun v wr => ∃ (l : List (Nat → Int)) (hd' : Nat → Nat) (G' : Nat → Prop), Hid (Runs S dn hd l hd') ∧ (l.length : Int) ≤ max n 0 ∧ Hid (LI 34 wr v l) ∧ Hid (MAt S wr B dn hd' G') ∧ Hid (∀ k, G' k → G k ∨ w.heap.size ≤ k) ∧ Hid (∀ k, v.ownBlock = some k → ¬ G' k ∧ w.heap.size ≤ k) ∧ Hid (Tch (fun k => S.T k ∨ k = B ∨ G k) w wr)) (fun v _ => n.toNat - lenV v)
  case atStart => exact hrel0
  case round =>
    clear hrel0
    obtain ⟨l, hd', G', hr, hle, hL, hM, hG, hv, ht⟩ := hrel
    obtain ⟨A, c, rfl, hc1, hc2⟩ := hL.out.form
    have hsz := ht.out.size
    unfold maxLen at hc2
    by_cases hlt : (l.length : Int) < n
    · have cN := next_at S B dn hd' G' wr hS hBT hM.out
      replace cN := Lib.hid cN
      go_wp2_with fail
      refine cN.out.mono ?_
      rintro e2 w2 ⟨hd2, hNR, hM2, ht2⟩
      have hTv : ∀ b, (Value.slice A l.length c).ownBlock = some b → ¬ (S.T b ∨ b = B ∨ G' b) := fun b hb => by
        obtain ⟨h1, h2⟩ := hv.out b hb
        rintro (h | h | h)
        · have := hTl.out _ h; omega
        · omega
        · exact h1 h
      have hL2 := Lib.hid (hL.out.tch ht2 hTv)
      have ht3 := Lib.hid (ht.out.trans2 ht2 (fun k hk h => h.imp_right (fun h => h.imp_right (fun h => (hG.out k h).elim id (fun h => absurd hk (by omega))))))
      have hsz2 := ht2.size
      have hvl := hL.out.lt
      rcases hNR with ⟨b, hb, rfl, rfl⟩ | ⟨hall, rfl, rfl⟩
      · unfold itV
        obtain ⟨x, hx⟩ : ∃ x, x = S.X b (hd' b) := ⟨_, rfl⟩
        rw [← hx]
        have hr2 := Lib.hid (hr.out.snoc hb)
        rw [← hx] at hr2
        replace hx := Lib.hid hx
        replace hM2 := Lib.hid hM2
        replace hvl := Lib.hid hvl
        clear ht2 cN hTv
        go_upto_region 5 with fail
        refine abs_wp (fun X => Below w2.heap.size w2 X ∧ Blk X w2.heap.size 34 (icl x).toArray) ⟨bel_alloc (Below.refl _ _) _, Blk.new _ _ _⟩ ?_
        rintro X ⟨hbX, gX⟩
        have rX := rowAt_blk gX
        have lX := gX.lt
        unfold icl at rX
        have hLX := Lib.hid (hL2.out.kept hbX)
        have hMX := Lib.hid (hM2.out.kept hS hbX)
        have htX := Lib.hid (ht3.out.bel hbX)
        have hszX := hbX.size
        replace gX := Lib.hid gX
        replace hbX := Lib.hid hbX
        clear hL2 hM2 ht3
        go_wp2_with (at_builtin; refine wpList_appI (t0 := 34) (x := x) rfl (.tmp 19) (.tmp 21) (t := 38) Try.underlying38 info_Itm rfl (by omega) rfl rfl rfl (hLX.out.kept (bel_alloc (Below.refl _ _) _)) (Blk.new _ _ _) (by omega) ?_; intro v1 w1 ho1 ht1 hob1)
        have hbA := bel_alloc (Below.refl X.heap.size X) (.cells #[.int .u64 (x 0), .int .u64 (x 1), .int .u64 (x 2), .int .u8 (x 3)] 34)
        obtain ⟨A1, c1, rfl, _, _⟩ := ho1.form
        go_roundw
        case rel =>
          have hb1 : Tch (fun k => (Value.slice A l.length c).ownBlock = some k) X w1 := (tch_of hbA _).trans ht1
          have hszA := hbA.size
          have hvw : ∀ k, (Value.slice A l.length c).ownBlock = some k → k < wr.heap.size := hvl.out
          have hG2 : ∀ k, (G' k ∨ wr.heap.size ≤ k) ∧ k < X.heap.size → G k ∨ w.heap.size ≤ k := fun k h => h.1.elim (hG.out k) (fun h => Or.inr (by omega))
          refine ⟨l ++ [x], _, fun k => (G' k ∨ wr.heap.size ≤ k) ∧ k < X.heap.size, hr2, by simp; omega, Lib.hid ho1, Lib.hid (((hMX.out.mono (G' := fun k => (G' k ∨ wr.heap.size ≤ k) ∧ k < X.heap.size) (fun k h1 h2 => ⟨h2, h1⟩)).tch hS hb1 (fun e => by have := hv.out _ e; omega) (fun k _ h1 h2 => ?_) (fun k h1 h2 => by have := hv.out _ h2; have := hTl.out _ h1; omega))), Lib.hid hG2, Lib.hid (fun k h => ?_), Lib.hid (htX.out.trans2 hb1 (fun k h1 h2 => by have := hv.out _ h2; omega))⟩
          · rcases h1.1 with h | h
            · exact (hv.out _ h2).1 h
            · have := hvw _ h2; omega
          · rcases hob1 with e | e
            · rw [e] at h
              refine ⟨fun h2 => ?_, (hv.out _ h).2⟩
              rcases h2.1 with h3 | h3
              · exact (hv.out _ h).1 h3
              · have := hvw _ h; omega
            · rw [e] at h
              simp at h
              exact ⟨fun h2 => by have := h2.2; omega, by omega⟩
        case measure => simp only [lenV, List.length_append, List.length_cons, List.length_nil]; omega
      · have hfin : ∀ w3, Below w2.heap.size w2 w3 → ∃ l_1 hd3 v, Runs S dn hd l_1 hd3 ∧ ((l_1.length : Int) = max n 0 ∨ ((l_1.length : Int) < n ∧ ∀ s, s < S.K → S.len s ≤ hd3 s)) ∧ Ending.returned (Value.slice A l.length c) = .returned v ∧ LI 34 w3 v l_1 ∧ MAt S w3 B dn hd3 (fun k => G k ∨ w.heap.size ≤ k) ∧ Tch (fun k => S.T k ∨ k = B ∨ G k) w w3 := fun w3 h3 => ⟨l, hd2, _, hr.out, Or.inr ⟨hlt, hall⟩, rfl, hL2.out.kept h3, (hM2.kept hS h3).mono (fun k _ h => h.elim (hG.out k) (fun h => Or.inr (by omega))), ht3.out.bel h3⟩
        replace hfin := Lib.hid hfin
        clear hM2 ht2 cN hL2 hTv ht3 hvl
        unfold itV
        dsimp only
        go_wp2_with fail
        go_ret
        exact hfin.out _ (by (repeat (first | exact Below.refl _ _ | assumption | refine below_drewN ?_ _ | refine bel_grow ?_ _ | refine Below.drew ?_ | refine bel_alloc ?_ _ | refine bel_set ?_ (by first | exact Nat.le_refl _ | (simp; done) | (simp; omega) | omega) _ | refine bel_trans ?_ (by assumption))))
    · go_wp2_with fail
      go_ret
      exact ⟨l, hd', hr.out, Or.inl (by omega), _, rfl, hL.out, hM.out.mono (fun k _ h => hG.out k h), ht.out⟩
end
end Go.Proofs.Ytecaegjonhimmaa
