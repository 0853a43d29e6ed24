/-
  Appends to rows of the call's own, one law each, in a walk and in a region: bytes behind bytes (none, too); one element of one cell behind others.
-/
import Derived.Test.YtnbfnlpepnbppaaByS
import Derived.Deep.Upon
import Derived.Lib.AppendZeros
namespace Go.Proofs.Ytnbfnlpepnbppaa
set_option linter.unusedVariables false
set_option linter.unusedSimpArgs false
open Go.RowKit

theorem run_appB {w : World} {base : Nat} {v : Value} {n m : Nat} {d e : Nat → Int} {A : Option Addr} (c : Nat) (ty : TypeId) (ho : OwnB w base v n d) (hs : SlIs w A m (yV e)) (h : n + m ≤ 10000000) (hbase : base ≤ w.heap.size) :
    ∃ v' w', (Builtin.append_ #[39, 39] ty #[v, .slice A m c]).run Try.prog w = .ok v' w' ∧ OwnB w' base v' (n + m) (cat d n e) ∧ Below base w w' := by
  obtain ⟨i0, hi0, hz0, hz1, hz2⟩ := info_parts info_u8
  rcases Nat.eq_zero_or_pos m with h0 | h0
  · subst h0
    obtain ⟨A2, c2, rfl, e2, m2, s2⟩ := OwnB.byS ho
    have hS : Src Try.prog i0.size 39 (.slice A 0 c) 0 [] w := by
      cases A with
      | none => exact Src.ofNil w Try.underlying39 c
      | some a => exact Src.ofSlice w Try.underlying39 a 0 c [] (by simp) (fun j u hj => by simp at hj) (fun u hu => by cases hu)
    exact ⟨_, _, run_append_nothing w 39 39 ty 5 i0 Try.underlying39 hi0 A2 n c2 e2 _ hS, ho.cast rfl (fun i hi => (cat_lo hi).symm), Below.refl _ _⟩
  · obtain ⟨b, o, rfl, hbl, hc⟩ := hs h0
    obtain ⟨v', w', hr, h2, h3, _⟩ := run_append_own (P := Try.prog) w base 39 ty 5 i0 _ 1 1 Try.underlying39 hi0 hz0 hz1 hz2 rfl (by omega) v n (yL d n) ho ⟨b, o, none⟩ m c (yL e m) (by rw [yL_len, Nat.mul_one]) (news_slis hc (Nat.le_refl m)) (yL_one' _ _) (by unfold maxLen; omega) (by omega) hbase
    exact ⟨v', w', hr, own_cat h2, Below.grown (Below.refl base w) h3 hbase (fun j hj => (ho.lt j hj).1)⟩
section
variable {ops : Array Oper} {rest : List Oper} {o : Oper} {a : Act} {w : World} {Q : Exit → Act → World → Prop} {K : Act → World → Prop}
theorem wpList_appB (hgd : o.guard = none) (s x : Operand) (ho : o.op = .call { callee := .builtin .append, args := #[s, x], argTypes := #[39, 39] })
    {base : Nat} {v : Value} {n m c : Nat} {d e : Nat → Int} {A : Option Addr} (hs : a.eval s = v) (hx : a.eval x = .slice A m c) (hO : OwnB w base v n d) (hS : SlIs w A m (yV e)) (h : n + m ≤ 10000000) (hbase : base ≤ w.heap.size)
    (hK : ∀ v' w', OwnB w' base v' (n + m) (cat d n e) → Below base w w' → wpList Try.prog ops Q rest (a.put o.dst v') w') : wpList Try.prog ops Q (o :: rest) a w := by
  obtain ⟨v', w', hr, h2, h3⟩ := run_appB c o.type hO hS h hbase
  exact Lib.wpList_append_run w hgd s x _ _ ho _ _ hs hx v' w' hr (hK v' w' h2 h3)
theorem step_appB {E : Prop} (hgd : o.guard = none) (s x : Operand) (ho : o.op = .call { callee := .builtin .append, args := #[s, x], argTypes := #[39, 39] })
    {base : Nat} {v : Value} {n m c : Nat} {d e : Nat → Int} {A : Option Addr} (hs : a.eval s = v) (hx : a.eval x = .slice A m c) (hO : OwnB w base v n d) (hS : SlIs w A m (yV e)) (h : n + m ≤ 10000000) (hbase : base ≤ w.heap.size)
    (hK : ∀ v' w', OwnB w' base v' (n + m) (cat d n e) → Below base w w' → K (a.put o.dst v') w') :
    if Region.wanted o (yielded ops a.tmps) = true then Oper.wp Try.prog o a w K Q else E := by
  have hw : Region.wanted o (yielded ops a.tmps) = true := by simp [Region.wanted, hgd]
  rw [if_pos hw]
  obtain ⟨v', w', hr, h2, h3⟩ := run_appB c o.type hO hS h hbase
  exact Lib.wp_append_run w s x _ _ ho _ _ hs hx v' w' hr (hK v' w' h2 h3)
end

/-- a row of the call's own of n elements of one cell each, the i-th is f i -/
def OwnV (w : World) (base : Nat) (e : TypeId) (v : Value) (n : Nat) (f : Nat → Value) : Prop := w.ownsRow base e 1 v n ((List.range n).map f)
theorem OwnV.nil (w : World) (base : Nat) (e : TypeId) (f : Nat → Value) : OwnV w base e (.slice none 0 0) 0 f := World.ownsRow_nil w base _ _
theorem OwnV.congr {w : World} {base : Nat} {e : TypeId} {v : Value} {n : Nat} {f g : Nat → Value} (h : OwnV w base e v n f) (hf : ∀ i, i < n → f i = g i) : OwnV w base e v n g := by
  unfold OwnV at *
  rw [← List.map_congr_left (fun i hi => hf i (by simpa using hi))]; exact h
theorem OwnV.slis {w : World} {base : Nat} {e : TypeId} {v : Value} {n : Nat} {f : Nat → Value} (h : OwnV w base e v n f) : ∃ A c, v = .slice A n c ∧ n ≤ c ∧ c ≤ maxLen ∧ SlIs w A n f := by
  have hh : ∀ j u, ((List.range n).map f)[j]? = some u → u = f j := by
    intro j u hu
    rw [List.getElem?_map] at hu
    by_cases hj : j < n
    · rw [List.getElem?_range hj] at hu; simpa using hu.symm
    · rw [List.getElem?_eq_none (by simpa using hj)] at hu; cases hu
  obtain ⟨A, c, h1, h2⟩ := own_slis h hh
  obtain ⟨_, h3⟩ := h
  rcases h3 with ⟨e1, e2⟩ | ⟨g, cap, cur, e1, _, _, h4, h5, _⟩
  · rw [h1] at e1; cases e1
    exact ⟨none, 0, h1, Nat.le_refl _, by simp [maxLen], SlIs.nil⟩
  · rw [h1] at e1; cases e1
    exact ⟨_, _, h1, h4, h5, by simpa using h2⟩
theorem OwnV.kept {w w' : World} {base : Nat} {e : TypeId} {v : Value} {n : Nat} {f : Nat → Value} (h : OwnV w base e v n f) (hb : Below w.heap.size w w') : OwnV w' base e v n f := own_below h hb
theorem run_appV {w : World} {base t e by_ : Nat} {v z x : Value} {n g c : Nat} {f : Nat → Value} (ty : TypeId) (hu : Try.prog.underlying t = some (.slice e)) (hi5 : (Try.prog.info? e).map (fun i => (i.zero, i.size, i.bytes)) = some (some z, 1, by_)) (hz : z.cells.size = 1) (hby : by_ ≤ 64)
    (ho : OwnV w base e v n f) (hc : w.cell? ⟨g, 0, none⟩ = some x) (hx : x = f n) (h1 : x.oneCell' = true) (h : n ≤ 1000000) (hbase : base ≤ w.heap.size) :
    ∃ v' w', (Builtin.append_ #[t, t] ty #[v, .slice (some ⟨g, 0, none⟩) 1 c]).run Try.prog w = .ok v' w' ∧ OwnV w' base e v' (n + 1) f ∧ Below base w w' := by
  obtain ⟨i0, hi0, hz0, hz1, hz2⟩ := info_parts hi5
  have hb : (n + 1) * by_ ≤ 140737488355328 := Nat.le_trans (Nat.mul_le_mul (show n + 1 ≤ 1000001 by omega) hby) (by decide)
  obtain ⟨v', w', hr, h2, h3, _⟩ := run_append_own (P := Try.prog) w base t ty e i0 _ 1 by_ hu hi0 hz0 hz1 hz2 hz (by omega) v n _ ho ⟨g, 0, none⟩ 1 c [x] rfl (olds_one hc) (fun u hu => by rw [List.mem_singleton] at hu; rw [hu]; exact h1) (by unfold maxLen; omega) hb hbase
  refine ⟨v', w', hr, ?_, Below.grown (Below.refl base w) h3 hbase (fun j hj => (ho.lt j hj).1)⟩
  unfold OwnV
  rw [List.range_succ, List.map_append, List.map_singleton, ← hx]
  exact h2
section
variable {ops : Array Oper} {rest : List Oper} {o : Oper} {a : Act} {w : World} {Q : Exit → Act → World → Prop} {K : Act → World → Prop}
theorem wpList_appV (hgd : o.guard = none) (s y : Operand) {t e by_ : Nat} {z x : Value} (hu : Try.prog.underlying t = some (.slice e)) (hi5 : (Try.prog.info? e).map (fun i => (i.zero, i.size, i.bytes)) = some (some z, 1, by_)) (hz : z.cells.size = 1) (hby : by_ ≤ 64)
    (ho : o.op = .call { callee := .builtin .append, args := #[s, y], argTypes := #[t, t] })
    {base : Nat} {v : Value} {n g c : Nat} {f : Nat → Value} (hs : a.eval s = v) (hy : a.eval y = .slice (some ⟨g, 0, none⟩) 1 c) (hO : OwnV w base e v n f) (hc : w.cell? ⟨g, 0, none⟩ = some x) (hx : x = f n) (h1 : x.oneCell' = true) (h : n ≤ 1000000) (hbase : base ≤ w.heap.size)
    (hK : ∀ v' w', OwnV w' base e v' (n + 1) f → Below base w w' → wpList Try.prog ops Q rest (a.put o.dst v') w') : wpList Try.prog ops Q (o :: rest) a w := by
  obtain ⟨v', w', hr, h2, h3⟩ := run_appV (c := c) o.type hu hi5 hz hby hO hc hx h1 h hbase
  exact Lib.wpList_append_run w hgd s y _ _ ho _ _ hs hy v' w' hr (hK v' w' h2 h3)
theorem step_appV {E : Prop} (hgd : o.guard = none) (s y : Operand) {t e by_ : Nat} {z x : Value} (hu : Try.prog.underlying t = some (.slice e)) (hi5 : (Try.prog.info? e).map (fun i => (i.zero, i.size, i.bytes)) = some (some z, 1, by_)) (hz : z.cells.size = 1) (hby : by_ ≤ 64)
    (ho : o.op = .call { callee := .builtin .append, args := #[s, y], argTypes := #[t, t] })
    {base : Nat} {v : Value} {n g c : Nat} {f : Nat → Value} (hs : a.eval s = v) (hy : a.eval y = .slice (some ⟨g, 0, none⟩) 1 c) (hO : OwnV w base e v n f) (hc : w.cell? ⟨g, 0, none⟩ = some x) (hx : x = f n) (h1 : x.oneCell' = true) (h : n ≤ 1000000) (hbase : base ≤ w.heap.size)
    (hK : ∀ v' w', OwnV w' base e v' (n + 1) f → Below base w w' → K (a.put o.dst v') w') :
    if Region.wanted o (yielded ops a.tmps) = true then Oper.wp Try.prog o a w K Q else E := by
  have hw : Region.wanted o (yielded ops a.tmps) = true := by simp [Region.wanted, hgd]
  rw [if_pos hw]
  obtain ⟨v', w', hr, h2, h3⟩ := run_appV (c := c) o.type hu hi5 hz hby hO hc hx h1 h hbase
  exact Lib.wp_append_run w s y _ _ ho _ _ hs hy v' w' hr (hK v' w' h2 h3)
end
end Go.Proofs.Ytnbfnlpepnbppaa
