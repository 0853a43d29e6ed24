/-
  slices.Clone of bytes, blocks and writes, walked.
-/
import Derived.Test.YtnbfnlpepnbppaaDkA
namespace Go.Proofs.Ytnbfnlpepnbppaa
set_option linter.unusedVariables false
set_option linter.unusedSimpArgs false
open Go.RowKit

section
variable {P : Program}
theorem wpList_append_at (w : World) {ops : Array Oper} {rest : List Oper} {o : Oper} {a : Act} {Q : Exit → Act → World → Prop} (hg : o.guard = none) (s x : Operand) (t : TypeId) (ho : o.op = Op.call { callee := .builtin .append, args := #[s, x], argTypes := #[t, t] })
    (vs vx : Value) (hs : a.eval s = vs) (hx : a.eval x = vx) {v' : Value} {w' : World} (hr : (Builtin.append_ #[t, t] o.type #[vs, vx]).run P w = .ok v' w') (hK : wpList P ops Q rest (a.put o.dst v') w') : wpList P ops Q (o :: rest) a w :=
  Lib.wpList_append_run w hg s x _ _ ho _ _ hs hx v' w' hr hK
theorem run_append_none (W : World) (t ty e : TypeId) {z : Value} {k b : Nat} (hi5 : (P.info? e).map (fun i => (i.zero, i.size, i.bytes)) = some (some z, k, b)) (ht : P.underlying t = some (.slice e)) (b0 : Addr) (p : Option Addr) (c : Nat) :
    (Builtin.append_ #[t, t] ty #[.slice (some b0) 0 0, .slice p 0 c]).run P W = .ok (.slice (some b0) 0 0) W := by
  obtain ⟨i, hi, _⟩ := Option.map_eq_some_iff.1 hi5
  cases p <;> simp [Builtin.append_, run_underlying ht, sizeOf, typeInfo, hi, Builtin.lenOf, Builtin.firstCells, loadCells, loadCellsFrom, storeCells]
end
theorem news_ss {w : World} {b o k n : Nat} {f : Nat → List Value} (hf : ∀ i, (f i).length = k) (h : ∀ i, i < n → w.rangeAt b (o + i * k) (f i)) : ∀ j u, ((List.range n).flatMap f)[j]? = some u → w.cell? ((⟨b, o, none⟩ : Addr).add j) = some u := by
  intro j u hu
  have e : (⟨b, o, none⟩ : Addr).add j = ⟨b, o + j, none⟩ := by unfold Addr.add; split <;> simp_all
  rw [e]
  have hj : j < n * k := by
    have := (List.getElem?_eq_some_iff.1 hu).1
    rw [fm_len hf] at this
    exact this
  have hk : 0 < k := by
    rcases Nat.eq_zero_or_pos k with h | h
    · subst h; omega
    · exact h
  have hd := Nat.div_add_mod j k
  have hm := Nat.mod_lt j hk
  have hi : j / k < n := (Nat.div_lt_iff_lt_mul hk).2 hj
  have e2 : j = j / k * k + j % k := by rw [Nat.mul_comm]; exact hd.symm
  rw [e2, fm_at hf hm hi] at hu
  have := h (j / k) hi (j % k) u hu
  rw [Nat.add_assoc, ← e2] at this
  exact this
theorem eqnil_clone_By : ∀ (w : World) (a : Option Addr) (n c n' c' : Nat), (binOp .eql 39 (.slice a n c) (.slice none n' c')).run Try.prog w = .ok (.bool a.isNone) w := fun w a n c n' c' => Lib.run_eql_slice_nil w _ _ a n c n' c' Try.underlying39
set_option maxHeartbeats 1000000 in
theorem clone_By_any (A : Option Addr) (n c : Nat) (f : Nat → List Value) (hf : ∀ i, (f i).length = 1) (h1 : ∀ i, ∀ u ∈ f i, u.oneCell' = true) (hn : n ≤ 1000000) (w : World) (hs : SsIs w A n 1 f) : Calls Try.prog 28 #[.slice A n c] w fun r w' =>
      ∃ v, r = .returned v ∧ OwnS w' w.heap.size 5 1 v n f ∧ Below w.heap.size w w' := by
  obtain ⟨i0, hi0, hz0, hz1, hz2⟩ := info_parts info_u8
  replace hi0 := Lib.hid hi0
  replace hz0 := Lib.hid hz0
  replace hz1 := Lib.hid hz1
  replace hz2 := Lib.hid hz2
  have q22 := eqnil_clone_By
  cases A with
  | none =>
    obtain rfl : n = 0 := by
      rcases Nat.eq_zero_or_pos n with h | h
      · exact h
      · obtain ⟨b, o, e, _⟩ := hs h; cases e
    clear hs
    go_enter Try.func28, Try.ntmps28
    go_wp2
    go_ret
    exact ⟨_, rfl, OwnS.nil _ _ _ _ _, Below.refl _ _⟩
  | some a =>
    by_cases h0 : n = 0
    · subst h0
      clear hs
      have H := fun W ty => run_append_none (P := Try.prog) W 39 ty 5 info_u8 Try.underlying39 ⟨w.heap.size, 0, none⟩ (some a) c
      go_enter Try.func28, Try.ntmps28
      go_wp2_with (at_builtin; refine wpList_append_at _ rfl (.tmp 5) (.tmp 6) 39 rfl _ _ rfl rfl (H _ _) ?_)
      go_ret
      refine ⟨_, rfl, ⟨by simp, Or.inr ⟨w.heap.size, 0, #[], rfl, Nat.le_refl _, Blk.new _ _ _, Nat.le_refl _, by simp [maxLen], by simp, by simp⟩⟩, ?_⟩
      (repeat (first | exact Below.refl _ _ | assumption | refine below_drewN ?_ _ | refine bel_grow ?_ _ | refine Below.drew ?_ | refine bel_alloc ?_ _ | refine bel_set ?_ (by first | exact Nat.le_refl _ | (simp; done) | (simp; omega) | omega) _ | refine bel_trans ?_ (by assumption)))
    · obtain ⟨b, o, e, hbl, hcl⟩ := hs (by omega)
      cases e
      replace hcl := Lib.hid hcl
      clear hs
      go_enter Try.func28, Try.ntmps28
      go_wp2_with (at_builtin; refine wpList_append_grows _ rfl (.tmp 5) (.tmp 6) _ rfl 5 i0 _ 1 1 Try.underlying39 hi0.out hz0.out hz1.out hz2.out rfl (by omega) (some ⟨w.heap.size, 0, none⟩) 0 0 [] rfl (fun h => by cases h) ?c0 ?c1 ⟨b, o, none⟩ n c ((List.range n).flatMap f) rfl ?c2 ?c3 ?c4 (by omega) ?c5 ?c6 ?_; rotate_right; intro v' w3 hown hg3)
      case c0 => rfl
      case c1 => rintro b ⟨⟩ j u hu; simp at hu
      case c2 => rw [fm_len hf]
      case c3 => exact news_ss hf (fun i hi => rangeAt_below (hcl.out i hi) (bel_alloc (Below.refl _ _) _))
      case c4 =>
        intro u hu
        obtain ⟨i, _, hi⟩ := List.mem_flatMap.1 hu
        exact h1 i u hi
      case c5 => simp [maxLen]; omega
      case c6 => omega
      go_ret
      refine ⟨_, rfl, ?_, bel_grown (bel_alloc (Below.refl _ _) _) hg3 (fun k hk => by cases hk)⟩
      rw [Nat.zero_add, List.nil_append] at hown
      obtain ⟨z1, z2⟩ := hown
      exact ⟨z1, z2.imp id (fun ⟨g, cap, cur, q1, q2, q3⟩ => ⟨g, cap, cur, q1, Nat.le_trans (by simp) q2, q3⟩)⟩
theorem eqnil_clone_Bl : ∀ (w : World) (a : Option Addr) (n c n' c' : Nat), (binOp .eql 62 (.slice a n c) (.slice none n' c')).run Try.prog w = .ok (.bool a.isNone) w := fun w a n c n' c' => Lib.run_eql_slice_nil w _ _ a n c n' c' Try.underlying62
set_option maxHeartbeats 1000000 in
theorem clone_Bl_any (A : Option Addr) (n c : Nat) (f : Nat → List Value) (hf : ∀ i, (f i).length = 512) (h1 : ∀ i, ∀ u ∈ f i, u.oneCell' = true) (hn : n ≤ 1000000) (w : World) (hs : SsIs w A n 512 f) : Calls Try.prog 33 #[.slice A n c] w fun r w' =>
      ∃ v, r = .returned v ∧ OwnS w' w.heap.size 67 512 v n f ∧ Below w.heap.size w w' := by
  obtain ⟨i0, hi0, hz0, hz1, hz2⟩ := info_parts info_B
  replace hi0 := Lib.hid hi0
  replace hz0 := Lib.hid hz0
  replace hz1 := Lib.hid hz1
  replace hz2 := Lib.hid hz2
  have q22 := eqnil_clone_Bl
  cases A with
  | none =>
    obtain rfl : n = 0 := by
      rcases Nat.eq_zero_or_pos n with h | h
      · exact h
      · obtain ⟨b, o, e, _⟩ := hs h; cases e
    clear hs
    go_enter Try.func33, Try.ntmps33
    go_wp2
    go_ret
    exact ⟨_, rfl, OwnS.nil _ _ _ _ _, Below.refl _ _⟩
  | some a =>
    by_cases h0 : n = 0
    · subst h0
      clear hs
      have H := fun W ty => run_append_none (P := Try.prog) W 62 ty 67 info_B Try.underlying62 ⟨w.heap.size, 0, none⟩ (some a) c
      go_enter Try.func33, Try.ntmps33
      go_wp2_with (at_builtin; refine wpList_append_at _ rfl (.tmp 5) (.tmp 6) 62 rfl _ _ rfl rfl (H _ _) ?_)
      go_ret
      refine ⟨_, rfl, ⟨by simp, Or.inr ⟨w.heap.size, 0, #[], rfl, Nat.le_refl _, Blk.new _ _ _, Nat.le_refl _, by simp [maxLen], by simp, by simp⟩⟩, ?_⟩
      (repeat (first | exact Below.refl _ _ | assumption | refine below_drewN ?_ _ | refine bel_grow ?_ _ | refine Below.drew ?_ | refine bel_alloc ?_ _ | refine bel_set ?_ (by first | exact Nat.le_refl _ | (simp; done) | (simp; omega) | omega) _ | refine bel_trans ?_ (by assumption)))
    · obtain ⟨b, o, e, hbl, hcl⟩ := hs (by omega)
      cases e
      replace hcl := Lib.hid hcl
      clear hs
      go_enter Try.func33, Try.ntmps33
      go_wp2_with (at_builtin; refine wpList_append_grows _ rfl (.tmp 5) (.tmp 6) _ rfl 67 i0 _ 512 512 Try.underlying62 hi0.out hz0.out hz1.out hz2.out zB_cells (by omega) (some ⟨w.heap.size, 0, none⟩) 0 0 [] rfl (fun h => by cases h) ?c0 ?c1 ⟨b, o, none⟩ n c ((List.range n).flatMap f) rfl ?c2 ?c3 ?c4 (by omega) ?c5 ?c6 ?_; rotate_right; intro v' w3 hown hg3)
      case c0 => rfl
      case c1 => rintro b ⟨⟩ j u hu; simp at hu
      case c2 => rw [fm_len hf]
      case c3 => exact news_ss hf (fun i hi => rangeAt_below (hcl.out i hi) (bel_alloc (Below.refl _ _) _))
      case c4 =>
        intro u hu
        obtain ⟨i, _, hi⟩ := List.mem_flatMap.1 hu
        exact h1 i u hi
      case c5 => simp [maxLen]; omega
      case c6 => omega
      go_ret
      refine ⟨_, rfl, ?_, bel_grown (bel_alloc (Below.refl _ _) _) hg3 (fun k hk => by cases hk)⟩
      rw [Nat.zero_add, List.nil_append] at hown
      obtain ⟨z1, z2⟩ := hown
      exact ⟨z1, z2.imp id (fun ⟨g, cap, cur, q1, q2, q3⟩ => ⟨g, cap, cur, q1, Nat.le_trans (by simp) q2, q3⟩)⟩
theorem eqnil_clone_Wr : ∀ (w : World) (a : Option Addr) (n c n' c' : Nat), (binOp .eql 63 (.slice a n c) (.slice none n' c')).run Try.prog w = .ok (.bool a.isNone) w := fun w a n c n' c' => Lib.run_eql_slice_nil w _ _ a n c n' c' Try.underlying63
set_option maxHeartbeats 1000000 in
theorem clone_Wr_any (A : Option Addr) (n c : Nat) (f : Nat → List Value) (hf : ∀ i, (f i).length = 513) (h1 : ∀ i, ∀ u ∈ f i, u.oneCell' = true) (hn : n ≤ 1000000) (w : World) (hs : SsIs w A n 513 f) : Calls Try.prog 34 #[.slice A n c] w fun r w' =>
      ∃ v, r = .returned v ∧ OwnS w' w.heap.size 69 513 v n f ∧ Below w.heap.size w w' := by
  obtain ⟨i0, hi0, hz0, hz1, hz2⟩ := info_parts info_W
  replace hi0 := Lib.hid hi0
  replace hz0 := Lib.hid hz0
  replace hz1 := Lib.hid hz1
  replace hz2 := Lib.hid hz2
  have q22 := eqnil_clone_Wr
  cases A with
  | none =>
    obtain rfl : n = 0 := by
      rcases Nat.eq_zero_or_pos n with h | h
      · exact h
      · obtain ⟨b, o, e, _⟩ := hs h; cases e
    clear hs
    go_enter Try.func34, Try.ntmps34
    go_wp2
    go_ret
    exact ⟨_, rfl, OwnS.nil _ _ _ _ _, Below.refl _ _⟩
  | some a =>
    by_cases h0 : n = 0
    · subst h0
      clear hs
      have H := fun W ty => run_append_none (P := Try.prog) W 63 ty 69 info_W Try.underlying63 ⟨w.heap.size, 0, none⟩ (some a) c
      go_enter Try.func34, Try.ntmps34
      go_wp2_with (at_builtin; refine wpList_append_at _ rfl (.tmp 5) (.tmp 6) 63 rfl _ _ rfl rfl (H _ _) ?_)
      go_ret
      refine ⟨_, rfl, ⟨by simp, Or.inr ⟨w.heap.size, 0, #[], rfl, Nat.le_refl _, Blk.new _ _ _, Nat.le_refl _, by simp [maxLen], by simp, by simp⟩⟩, ?_⟩
      (repeat (first | exact Below.refl _ _ | assumption | refine below_drewN ?_ _ | refine bel_grow ?_ _ | refine Below.drew ?_ | refine bel_alloc ?_ _ | refine bel_set ?_ (by first | exact Nat.le_refl _ | (simp; done) | (simp; omega) | omega) _ | refine bel_trans ?_ (by assumption)))
    · obtain ⟨b, o, e, hbl, hcl⟩ := hs (by omega)
      cases e
      replace hcl := Lib.hid hcl
      clear hs
      go_enter Try.func34, Try.ntmps34
      go_wp2_with (at_builtin; refine wpList_append_grows _ rfl (.tmp 5) (.tmp 6) _ rfl 69 i0 _ 513 520 Try.underlying63 hi0.out hz0.out hz1.out hz2.out zW_cells (by omega) (some ⟨w.heap.size, 0, none⟩) 0 0 [] rfl (fun h => by cases h) ?c0 ?c1 ⟨b, o, none⟩ n c ((List.range n).flatMap f) rfl ?c2 ?c3 ?c4 (by omega) ?c5 ?c6 ?_; rotate_right; intro v' w3 hown hg3)
      case c0 => rfl
      case c1 => rintro b ⟨⟩ j u hu; simp at hu
      case c2 => rw [fm_len hf]
      case c3 => exact news_ss hf (fun i hi => rangeAt_below (hcl.out i hi) (bel_alloc (Below.refl _ _) _))
      case c4 =>
        intro u hu
        obtain ⟨i, _, hi⟩ := List.mem_flatMap.1 hu
        exact h1 i u hi
      case c5 => simp [maxLen]; omega
      case c6 => omega
      go_ret
      refine ⟨_, rfl, ?_, bel_grown (bel_alloc (Below.refl _ _) _) hg3 (fun k hk => by cases hk)⟩
      rw [Nat.zero_add, List.nil_append] at hown
      obtain ⟨z1, z2⟩ := hown
      exact ⟨z1, z2.imp id (fun ⟨g, cap, cur, q1, q2, q3⟩ => ⟨g, cap, cur, q1, Nat.le_trans (by simp) q2, q3⟩)⟩
end Go.Proofs.Ytnbfnlpepnbppaa
