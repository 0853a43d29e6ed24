/-
  bytes.Clone, key.Next and the document's Next, walked.
-/
import Derived.Test.YtkgjpebekcgagaaKc
import Derived.Lib.SliceRun
namespace Go.Proofs.Ytkgjpebekcgagaa
set_option linter.unusedVariables false
set_option linter.unusedSimpArgs false
open Go.RowKit

/-- a row of the call's own, by its index -/
theorem own_row {w : World} {base : Nat} {v : Value} {n : Nat} {d : Nat → Int} (h : OwnB w base v n d) (hn : 0 < n) :
    ∃ g cap f, v = .slice (some ⟨g, 0, none⟩) n cap ∧ base ≤ g ∧ n ≤ cap ∧ cap ≤ maxLen ∧ w.rowIs g 5 cap f ∧ ∀ i, i < n → f i = yV d i := by
  obtain ⟨hl, h2⟩ := h
  rcases h2 with ⟨rfl, rfl⟩ | ⟨g, cap, cur, rfl, hb, hh, h3, h4, h5, h6⟩
  · omega
  · refine ⟨g, cap, fun i => cur[i]?.getD (.int .u8 0), rfl, hb, h3, h4, ⟨cur, hh, by simpa using h5, fun i hi => ?_⟩, fun i hi => ?_⟩
    · have : i < cur.size := by omega
      simp [this]
    · have e : cur.toList[i]? = (yL d n)[i]? := by rw [← h6, List.getElem?_take, if_pos (by omega)]
      have e2 : (yL d n)[i]? = some (yV d i) := by
        have hl2 : i < (yL d n).length := by rw [yL_len]; exact hi
        rw [List.getElem?_eq_getElem hl2, yL_at d n i _ (List.getElem?_eq_getElem hl2)]
      rw [e2, Array.getElem?_toList] at e
      show cur[i]?.getD _ = _
      rw [e]; rfl
theorem yL_get {d : Nat → Int} {n i : Nat} (hi : i < n) : (yL d n)[i]? = some (yV d i) := by
  have hl2 : i < (yL d n).length := by rw [yL_len]; exact hi
  rw [List.getElem?_eq_getElem hl2, yL_at d n i _ (List.getElem?_eq_getElem hl2)]
theorem row_own {w : World} {base g cap n : Nat} {f : Nat → Value} {d : Nat → Int} (h : w.rowIs g 5 cap f) (hf : ∀ i, i < n → f i = yV d i) (hb : base ≤ g) (h1 : n ≤ cap) (h2 : cap ≤ maxLen) :
    OwnB w base (.slice (some ⟨g, 0, none⟩) n cap) n d := by
  obtain ⟨c, hh, hs, hc⟩ := h
  refine ⟨by rw [yL_len]; omega, Or.inr ⟨g, cap, c, rfl, hb, hh, h1, h2, by omega, ?_⟩⟩
  apply List.ext_getElem?
  intro i
  rw [List.getElem?_take]
  split
  · rename_i hi
    rw [yL_get (by omega), Array.getElem?_toList, hc i (by omega), hf i (by omega)]
  · rename_i hi
    rw [List.getElem?_eq_none (by rw [yL_len]; omega)]

section
variable {P : Program}
theorem wpList_append_run (w : World) {ops : Array Oper} {rest : List Oper} {o : Oper} {a : Act} {Q : Exit → Act → World → Prop} (hgd : o.guard = none) (d s : Operand) (t t' : TypeId)
    (ho : o.op = .call { callee := .builtin .append, args := #[d, s], argTypes := #[t, t'] }) (v u : Value) (hd : a.eval d = v) (hs : a.eval s = u) {v' : Value} {w' : World}
    (hr : (Builtin.append_ #[t, t'] o.type #[v, u]).run P w = .ok v' w') (h : wpList P ops Q rest (a.put o.dst v') w') : wpList P ops Q (o :: rest) a w :=
  wpList_plain hgd fun K hK => by
    unfold Oper.wp execOp
    simp only [ho, resolve, invoke, builtin, Sem.run_bind, Sem.run_pure, Result.andThen_ok, List.map_toArray, List.map_cons, List.map_nil, hd, hs, hr]
    exact hK _ _ h
theorem run_append_zero (W : World) (t ty e : TypeId) (hi5 : (P.info? e).map (fun i => (i.zero, i.size, i.bytes)) = some (some (Value.int IntKind.u8 0), 1, 1)) (ht : P.underlying t = some (.slice e)) (b0 : Addr) (p : Option Addr) (c : Nat) :
    (Builtin.append_ #[t, t] ty #[.slice (some b0) 0 0, .slice p 0 c]).run P W = .ok (.slice (some b0) 0 0) W := by
  obtain ⟨i, hi, _⟩ := Option.map_eq_some_iff.1 hi5
  cases p <;> simp [Builtin.append_, run_underlying ht, sizeOf, typeInfo, hi, Builtin.lenOf, Builtin.firstCells, loadCells, loadCellsFrom, storeCells]
end
theorem eqnil_u8 : ∀ (w : World) (a : Option Addr) (n c n' c' : Nat), (binOp .eql 22 (.slice a n c) (.slice none n' c')).run Try.prog w = .ok (.bool a.isNone) w := fun w a n c n' c' => Lib.run_eql_slice_nil w _ _ a n c n' c' Try.underlying22

set_option maxHeartbeats 1000000 in
theorem bclone_any (A : Option Addr) (n c : Nat) (d : Nat → Int) (hn : n ≤ 1000000) (w : World) (hs : SlIs w A n (yV d)) : Calls Try.prog 27 #[.slice A n c] w fun r w' =>
      ∃ v, r = .returned v ∧ OwnB w' w.heap.size v n d ∧ Below w.heap.size w w' := by
  obtain ⟨i0, hi0, hz0, hz1, hz2⟩ := info_parts info_u8
  replace hi0 := Lib.hid hi0
  replace hz0 := Lib.hid hz0
  replace hz1 := Lib.hid hz1
  replace hz2 := Lib.hid hz2
  have q22 := eqnil_u8
  cases A with
  | none =>
    obtain rfl : n = 0 := by
      rcases Nat.eq_zero_or_pos n with h | h
      · exact h
      · obtain ⟨b, o, e, _⟩ := hs h; cases e
    clear hs
    go_enter Try.func27, Try.ntmps27
    go_wp2
    go_ret
    exact ⟨_, rfl, OwnB.nil _ _ _, Below.refl _ _⟩
  | some a =>
    by_cases h0 : n = 0
    · subst h0
      clear hs
      have H := fun W => run_append_zero (P := Try.prog) W 22 22 5 info_u8 Try.underlying22 ⟨w.heap.size, 0, none⟩ (some a) c
      go_enter Try.func27, Try.ntmps27
      go_wp2_with (at_builtin; refine wpList_append_run _ rfl (.tmp 5) (.tmp 6) 22 22 rfl _ _ rfl rfl (H _) ?_)
      go_ret
      refine ⟨_, rfl, row_own (cap := 0) (f := yV d) (rowIs_of rfl rfl (fun i hi => by omega)) (fun i hi => by omega) (Nat.le_refl _) (Nat.le_refl _) (by simp [maxLen]), ?_⟩
      (repeat (first | exact Below.refl _ _ | assumption | refine below_drewN ?_ _ | refine bel_grow ?_ _ | refine Below.drew ?_ | refine bel_alloc ?_ _ | refine bel_set ?_ (by first | exact Nat.le_refl _ | (simp; done) | (simp; omega) | omega) _ | refine bel_trans ?_ (by assumption)))
    · obtain ⟨b, o, e, hbl, hcl⟩ := hs (by omega)
      cases e
      replace hcl := Lib.hid hcl
      clear hs
      go_enter Try.func27, Try.ntmps27
      go_wp2_with (at_builtin; refine wpList_append_grows _ rfl (.tmp 5) (.tmp 6) _ rfl 5 i0 _ 1 1 Try.underlying22 hi0.out hz0.out hz1.out hz2.out rfl (by omega) (some ⟨w.heap.size, 0, none⟩) 0 0 [] rfl (fun h => by cases h) ?c0 ?c1 ⟨b, o, none⟩ n c (yL d n) rfl ?c2 ?c3 ?c4 (by omega) ?c5 ?c6 ?_; rotate_right; intro v' w3 hown hg3)
      case c0 => rfl
      case c1 => rintro b ⟨⟩ j u hu; simp at hu
      case c2 => rw [yL_len]; omega
      case c3 => exact news_slis (m := n) (fun j hj => keepc (bel_alloc (Below.refl _ _) _) (hcl.out j hj)) (Nat.le_refl _)
      case c4 => exact yL_one' _ _
      case c5 => simp [maxLen]; omega
      case c6 => omega
      go_ret
      refine ⟨_, rfl, ?_, bel_grown (bel_alloc (Below.refl _ _) _) hg3 (fun k hk => by cases hk)⟩
      rw [Nat.zero_add, List.nil_append] at hown
      exact OwnB.base (b := (w.alloc (.cells #[] 5)).heap.size) hown (by simp)
end Go.Proofs.Ytkgjpebekcgagaa
