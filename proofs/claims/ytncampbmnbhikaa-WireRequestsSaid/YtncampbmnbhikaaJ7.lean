/-
  Joined: Rows4 ByS AppB.
-/
import Derived.Test.YtncampbmnbhikaaJ4
import Derived.Test.YtncampbmnbhikaaRecC
import Derived.Deep.Upon
import Derived.Lib.AppendZeros
-- Rows4
namespace Go.Proofs.Ytncampbmnbhikaa
set_option linter.unusedVariables false
set_option linter.unusedSimpArgs false
open Go.RowKit

/-- rows of s bytes each: the i-th is f i -/
def rowsF (s : Nat) (f : Nat → Nat → Int) (j : Nat) : Int := f (j / s) (j % s)
theorem rowsF_at {s : Nat} {f : Nat → Nat → Int} {i r : Nat} (hr : r < s) : rowsF s f (i * s + r) = f i r := by
  unfold rowsF
  have h0 : 0 < s := by omega
  rw [Nat.mul_comm i s, Nat.mul_add_div h0, Nat.div_eq_of_lt hr, Nat.add_zero, Nat.mul_add_mod, Nat.mod_eq_of_lt hr]
theorem rowsF_step {s : Nat} {f : Nat → Nat → Int} {i n : Nat} (hn : n = i * s) : ∀ j, j < n + s → cat (rowsF s f) n (f i) j = rowsF s f j := by
  subst hn
  intro j hj
  by_cases h : j < i * s
  · rw [cat_lo h]
  · obtain ⟨r, rfl⟩ : ∃ r, j = i * s + r := ⟨j - i * s, by omega⟩
    rw [cat_hi, rowsF_at (by omega)]
/-- behind a head of h bytes -/
theorem rowsF_cat {d : Nat → Int} {h s : Nat} {f : Nat → Nat → Int} {i n : Nat} (hn : n = i * s) : ∀ j, j < h + n + s → cat (cat d h (rowsF s f)) (h + n) (f i) j = cat d h (rowsF s f) j := by
  intro j hj
  by_cases h1 : j < h + n
  · rw [cat_lo h1]
  · obtain ⟨r, rfl⟩ : ∃ r, j = h + n + r := ⟨j - (h + n), by omega⟩
    rw [cat_hi, Nat.add_assoc, cat_hi, hn, rowsF_at (by omega)]
theorem rowsF_congr {s : Nat} {f g : Nat → Nat → Int} {n : Nat} (h : ∀ i, i < n → ∀ r, r < s → f i r = g i r) : ∀ j, j < n * s → rowsF s f j = rowsF s g j := by
  intro j hj
  have h0 : 0 < s := by
    rcases Nat.eq_zero_or_pos s with e | e
    · subst e; omega
    · exact e
  exact h (j / s) ((Nat.div_lt_iff_lt_mul h0).2 hj) (j % s) (Nat.mod_lt _ h0)
theorem rowsF_ok {s : Nat} {f : Nat → Nat → Int} (h : ∀ i r, 0 ≤ f i r ∧ f i r < 256) (j : Nat) : 0 ≤ rowsF s f j ∧ rowsF s f j < 256 := h _ _
end Go.Proofs.Ytncampbmnbhikaa
-- ByS
namespace Go.Proofs.Ytncampbmnbhikaa
set_option linter.unusedVariables false
set_option linter.unusedSimpArgs false
open Go.RowKit

/-- the value v is a slice of n bytes d -/
def ByS (w : World) (v : Value) (n : Nat) (d : Nat → Int) : Prop := ∃ A c, v = .slice A n c ∧ n ≤ c ∧ c ≤ maxLen ∧ SlIs w A n (yV d)
theorem OwnB.byS {w : World} {base : Nat} {v : Value} {n : Nat} {d : Nat → Int} (h : OwnB w base v n d) : ByS w v n d := by
  obtain ⟨A, c, rfl, hs⟩ := h.slis
  obtain ⟨_, h2⟩ := h
  rcases h2 with ⟨e, rfl⟩ | ⟨g, cap, cur, e, _, _, h3, h4, _⟩
  · cases e; exact ⟨none, 0, rfl, Nat.le_refl _, by simp [maxLen], hs⟩
  · cases e; exact ⟨_, _, rfl, h3, h4, hs⟩
theorem ByS.below {w w' : World} {v : Value} {n : Nat} {d : Nat → Int} (h : ByS w v n d) (hb : Below w.heap.size w w') : ByS w' v n d := by
  obtain ⟨A, c, e, h1, h2, h3⟩ := h
  exact ⟨A, c, e, h1, h2, h3.below hb⟩
theorem ByS.congr {w : World} {v : Value} {n : Nat} {d e : Nat → Int} (h : ByS w v n d) (hd : ∀ i, i < n → d i = e i) : ByS w v n e := by
  obtain ⟨A, c, e', h1, h2, h3⟩ := h
  exact ⟨A, c, e', h1, h2, h3.congr (fun i hi => by unfold yV; rw [hd i hi])⟩
theorem byS_row {w : World} {g : Nat} {t : TypeId} {n m c off : Nat} {d : Nat → Int} (h : w.rowIs g t n (yV d)) (h1 : off + m ≤ n) (h2 : m ≤ c) (h3 : c ≤ maxLen) : ByS w (.slice (some ⟨g, off, none⟩) m c) m (fun i => d (off + i)) :=
  ⟨_, _, rfl, h2, h3, fun _ => ⟨g, off, rfl, h.lt, fun j hj => h.cell (by omega)⟩⟩

section
variable {P : Program} {w : World}
theorem wp_append_grows {o : Oper} {a : Act} {K : Act → World → Prop} {Q : Exit → Act → World → Prop}
    (s x : Operand) (t : TypeId) (hop : o.op = Op.call { callee := Callee.builtin Builtin.append, args := #[s, x], argTypes := #[t, t] })
    (e : TypeId) (i : TypeInfo) (z : Value) (size bytes : Nat) (h1 : P.underlying t = some (.slice e)) (h2 : P.info? e = some i) (h3 : i.zero = some z) (h4 : i.size = size) (h5 : i.bytes = bytes) (h6 : z.cells.size = size) (h7 : 0 < size)
    (b : Addr) (n cap : Nat) (olds : List Value) (hs : a.eval s = .slice (some b) n cap) (hlo : olds.length = n * size) (holds : ∀ j u, olds[j]? = some u → w.cell? (b.add j) = some u)
    (ad : Addr) (m c : Nat) (news : List Value) (hx : a.eval x = .slice (some ad) m c) (hn : news.length = m * size) (hc : ∀ j u, news[j]? = some u → w.cell? (ad.add j) = some u)
    (hfull : cap < n + m) (b1 : n + m ≤ maxLen) (b2 : (n + m) * bytes ≤ 140737488355328)
    (hK : ∀ v' w', w'.ownsRow w.heap.size e size v' (n + m) (olds ++ news) → w.grownBy w' none → K (a.put o.dst v') w') : o.wp P a w K Q := by
  obtain ⟨v', w', hrun, r1, r2⟩ := run_append_arg_grows (P := P) w t o.type e i z size bytes h1 h2 h3 h4 h5 h6 h7 b n cap olds hlo holds ad m c news hn hc hfull b1 b2
  unfold Oper.wp
  simp [execOp, hop, resolve, invoke, builtin, hs, hx, hrun, Result.andThen]
  exact hK v' w' r1 r2
theorem step_append_grows {ops : Array Oper} {o : Oper} {a : Act} {K : Act → World → Prop} {Q : Exit → Act → World → Prop} {E : Prop} (hgd : o.guard = none)
    (s x : Operand) (t : TypeId) (hop : o.op = Op.call { callee := Callee.builtin Builtin.append, args := #[s, x], argTypes := #[t, t] })
    (e : TypeId) (i : TypeInfo) (z : Value) (size bytes : Nat) (h1 : P.underlying t = some (.slice e)) (h2 : P.info? e = some i) (h3 : i.zero = some z) (h4 : i.size = size) (h5 : i.bytes = bytes) (h6 : z.cells.size = size) (h7 : 0 < size)
    (b : Addr) (n cap : Nat) (olds : List Value) (hs : a.eval s = .slice (some b) n cap) (hlo : olds.length = n * size) (holds : ∀ j u, olds[j]? = some u → w.cell? (b.add j) = some u)
    (ad : Addr) (m c : Nat) (news : List Value) (hx : a.eval x = .slice (some ad) m c) (hn : news.length = m * size) (hc : ∀ j u, news[j]? = some u → w.cell? (ad.add j) = some u)
    (hfull : cap < n + m) (b1 : n + m ≤ maxLen) (b2 : (n + m) * bytes ≤ 140737488355328)
    (hK : ∀ v' w', w'.ownsRow w.heap.size e size v' (n + m) (olds ++ news) → w.grownBy w' none → K (a.put o.dst v') w') :
    if Region.wanted o (yielded ops a.tmps) = true then Oper.wp P o a w K Q else E := by
  have hw : Region.wanted o (yielded ops a.tmps) = true := by simp [Region.wanted, hgd]
  rw [if_pos hw]
  exact wp_append_grows s x t hop e i z size bytes h1 h2 h3 h4 h5 h6 h7 b n cap olds hs hlo holds ad m c news hx hn hc hfull b1 b2 hK
end
theorem grownBy_bel {w w' : World} (h : w.grownBy w' none) : Below w.heap.size w w' := ⟨h.os, h.tape, h.output, h.size, fun i hi => h.block i hi (by simp)⟩
theorem own_cat {w : World} {base : Nat} {v : Value} {n m : Nat} {d e : Nat → Int} (h : w.ownsRow base 5 1 v (n + m) (yL d n ++ yL e m)) : OwnB w base v (n + m) (cat d n e) := by
  unfold OwnB; rw [yL_cat]; exact h
/-- the cells behind an address -/
theorem news_slis {w : World} {b o m : Nat} {d : Nat → Int} (h : ∀ j, j < m → w.cell? ⟨b, o + j, none⟩ = some (yV d j)) {n : Nat} (hn : n ≤ m) : ∀ j u, (yL d n)[j]? = some u → w.cell? ((⟨b, o, none⟩ : Addr).add j) = some u := by
  intro j u hu
  have hj : j < n := by
    rcases Nat.lt_or_ge j n with h1 | h1
    · exact h1
    · rw [List.getElem?_eq_none (by rw [yL_len]; exact h1)] at hu; cases hu
  have e : (⟨b, o, none⟩ : Addr).add j = ⟨b, o + j, none⟩ := by unfold Addr.add; split <;> simp_all
  rw [e, h j (by omega), yL_at d n j u hu]
theorem olds_one {w : World} {g : Nat} {v : Value} (h : w.cell? ⟨g, 0, none⟩ = some v) : ∀ j u, [v][j]? = some u → w.cell? ((⟨g, 0, none⟩ : Addr).add j) = some u := by
  intro j u hu
  cases j with
  | zero => cases hu; exact h
  | succ j => simp at hu
theorem keepc_n {W w1 : World} (hb : Below W.heap.size W w1) {b o m : Nat} {f : Nat → Value} (h : ∀ j, j < m → W.cell? ⟨b, o + j, none⟩ = some (f j)) : ∀ j, j < m → w1.cell? ⟨b, o + j, none⟩ = some (f j) := fun j hj => keepc hb (h j hj)
end Go.Proofs.Ytncampbmnbhikaa
-- AppB
namespace Go.Proofs.Ytncampbmnbhikaa
set_option linter.unusedVariables false
set_option linter.unusedSimpArgs false
open Go.RowKit

theorem run_appB {w : World} {base : Nat} {v : Value} {n m : Nat} {d e : Nat → Int} {A : Option Addr} (c : Nat) (ty : TypeId) (ho : OwnB w base v n d) (hs : SlIs w A m (yV e)) (h : n + m ≤ 10000000) (hbase : base ≤ w.heap.size) :
    ∃ v' w', (Builtin.append_ #[31, 31] ty #[v, .slice A m c]).run Try.prog w = .ok v' w' ∧ OwnB w' base v' (n + m) (cat d n e) ∧ Below base w w' := by
  obtain ⟨i0, hi0, hz0, hz1, hz2⟩ := info_parts info_u8
  rcases Nat.eq_zero_or_pos m with h0 | h0
  · subst h0
    obtain ⟨A2, c2, rfl, e2, m2, s2⟩ := OwnB.byS ho
    have hS : Src Try.prog i0.size 31 (.slice A 0 c) 0 [] w := by
      cases A with
      | none => exact Src.ofNil w Try.underlying31 c
      | some a => exact Src.ofSlice w Try.underlying31 a 0 c [] (by simp) (fun j u hj => by simp at hj) (fun u hu => by cases hu)
    exact ⟨_, _, run_append_nothing w 31 31 ty 5 i0 Try.underlying31 hi0 A2 n c2 e2 _ hS, ho.cast rfl (fun i hi => (cat_lo hi).symm), Below.refl _ _⟩
  · obtain ⟨b, o, rfl, hbl, hc⟩ := hs h0
    obtain ⟨v', w', hr, h2, h3, _⟩ := run_append_own (P := Try.prog) w base 31 ty 5 i0 _ 1 1 Try.underlying31 hi0 hz0 hz1 hz2 rfl (by omega) v n (yL d n) ho ⟨b, o, none⟩ m c (yL e m) (by rw [yL_len, Nat.mul_one]) (news_slis hc (Nat.le_refl m)) (yL_one' _ _) (by unfold maxLen; omega) (by omega) hbase
    exact ⟨v', w', hr, own_cat h2, Below.grown (Below.refl base w) h3 hbase (fun j hj => (ho.lt j hj).1)⟩
section
variable {ops : Array Oper} {rest : List Oper} {o : Oper} {a : Act} {w : World} {Q : Exit → Act → World → Prop} {K : Act → World → Prop}
theorem wpList_appB (hgd : o.guard = none) (s x : Operand) (ho : o.op = .call { callee := .builtin .append, args := #[s, x], argTypes := #[31, 31] })
    {base : Nat} {v : Value} {n m c : Nat} {d e : Nat → Int} {A : Option Addr} (hs : a.eval s = v) (hx : a.eval x = .slice A m c) (hO : OwnB w base v n d) (hS : SlIs w A m (yV e)) (h : n + m ≤ 10000000) (hbase : base ≤ w.heap.size)
    (hK : ∀ v' w', OwnB w' base v' (n + m) (cat d n e) → Below base w w' → wpList Try.prog ops Q rest (a.put o.dst v') w') : wpList Try.prog ops Q (o :: rest) a w := by
  obtain ⟨v', w', hr, h2, h3⟩ := run_appB c o.type hO hS h hbase
  exact Lib.wpList_append_run w hgd s x _ _ ho _ _ hs hx v' w' hr (hK v' w' h2 h3)
theorem step_appB {E : Prop} (hgd : o.guard = none) (s x : Operand) (ho : o.op = .call { callee := .builtin .append, args := #[s, x], argTypes := #[31, 31] })
    {base : Nat} {v : Value} {n m c : Nat} {d e : Nat → Int} {A : Option Addr} (hs : a.eval s = v) (hx : a.eval x = .slice A m c) (hO : OwnB w base v n d) (hS : SlIs w A m (yV e)) (h : n + m ≤ 10000000) (hbase : base ≤ w.heap.size)
    (hK : ∀ v' w', OwnB w' base v' (n + m) (cat d n e) → Below base w w' → K (a.put o.dst v') w') :
    if Region.wanted o (yielded ops a.tmps) = true then Oper.wp Try.prog o a w K Q else E := by
  have hw : Region.wanted o (yielded ops a.tmps) = true := by simp [Region.wanted, hgd]
  rw [if_pos hw]
  obtain ⟨v', w', hr, h2, h3⟩ := run_appB c o.type hO hS h hbase
  exact Lib.wp_append_run w s x _ _ ho _ _ hs hx v' w' hr (hK v' w' h2 h3)
end

/-- a row of the call's own of n elements of one cell each, the i-th is f i -/
def OwnV (w : World) (base : Nat) (e : TypeId) (v : Value) (n : Nat) (f : Nat → Value) : Prop := w.ownsRow base e 1 v n ((List.range n).map f)
theorem OwnV.nil (w : World) (base : Nat) (e : TypeId) (f : Nat → Value) : OwnV w base e (.slice none 0 0) 0 f := World.ownsRow_nil w base _ _
theorem OwnV.congr {w : World} {base : Nat} {e : TypeId} {v : Value} {n : Nat} {f g : Nat → Value} (h : OwnV w base e v n f) (hf : ∀ i, i < n → f i = g i) : OwnV w base e v n g := by
  unfold OwnV at *
  rw [← List.map_congr_left (fun i hi => hf i (by simpa using hi))]; exact h
theorem OwnV.slis {w : World} {base : Nat} {e : TypeId} {v : Value} {n : Nat} {f : Nat → Value} (h : OwnV w base e v n f) : ∃ A c, v = .slice A n c ∧ n ≤ c ∧ c ≤ maxLen ∧ SlIs w A n f := by
  have hh : ∀ j u, ((List.range n).map f)[j]? = some u → u = f j := by
    intro j u hu
    rw [List.getElem?_map] at hu
    by_cases hj : j < n
    · rw [List.getElem?_range hj] at hu; simpa using hu.symm
    · rw [List.getElem?_eq_none (by simpa using hj)] at hu; cases hu
  obtain ⟨A, c, h1, h2⟩ := own_slis h hh
  obtain ⟨_, h3⟩ := h
  rcases h3 with ⟨e1, e2⟩ | ⟨g, cap, cur, e1, _, _, h4, h5, _⟩
  · rw [h1] at e1; cases e1
    exact ⟨none, 0, h1, Nat.le_refl _, by simp [maxLen], SlIs.nil⟩
  · rw [h1] at e1; cases e1
    exact ⟨_, _, h1, h4, h5, by simpa using h2⟩
theorem OwnV.kept {w w' : World} {base : Nat} {e : TypeId} {v : Value} {n : Nat} {f : Nat → Value} (h : OwnV w base e v n f) (hb : Below w.heap.size w w') : OwnV w' base e v n f := own_below h hb
theorem run_appV {w : World} {base t e by_ : Nat} {v z x : Value} {n g c : Nat} {f : Nat → Value} (ty : TypeId) (hu : Try.prog.underlying t = some (.slice e)) (hi5 : (Try.prog.info? e).map (fun i => (i.zero, i.size, i.bytes)) = some (some z, 1, by_)) (hz : z.cells.size = 1) (hby : by_ ≤ 64)
    (ho : OwnV w base e v n f) (hc : w.cell? ⟨g, 0, none⟩ = some x) (hx : x = f n) (h1 : x.oneCell' = true) (h : n ≤ 1000000) (hbase : base ≤ w.heap.size) :
    ∃ v' w', (Builtin.append_ #[t, t] ty #[v, .slice (some ⟨g, 0, none⟩) 1 c]).run Try.prog w = .ok v' w' ∧ OwnV w' base e v' (n + 1) f ∧ Below base w w' := by
  obtain ⟨i0, hi0, hz0, hz1, hz2⟩ := info_parts hi5
  have hb : (n + 1) * by_ ≤ 140737488355328 := Nat.le_trans (Nat.mul_le_mul (show n + 1 ≤ 1000001 by omega) hby) (by decide)
  obtain ⟨v', w', hr, h2, h3, _⟩ := run_append_own (P := Try.prog) w base t ty e i0 _ 1 by_ hu hi0 hz0 hz1 hz2 hz (by omega) v n _ ho ⟨g, 0, none⟩ 1 c [x] rfl (olds_one hc) (fun u hu => by rw [List.mem_singleton] at hu; rw [hu]; exact h1) (by unfold maxLen; omega) hb hbase
  refine ⟨v', w', hr, ?_, Below.grown (Below.refl base w) h3 hbase (fun j hj => (ho.lt j hj).1)⟩
  unfold OwnV
  rw [List.range_succ, List.map_append, List.map_singleton, ← hx]
  exact h2
section
variable {ops : Array Oper} {rest : List Oper} {o : Oper} {a : Act} {w : World} {Q : Exit → Act → World → Prop} {K : Act → World → Prop}
theorem wpList_appV (hgd : o.guard = none) (s y : Operand) {t e by_ : Nat} {z x : Value} (hu : Try.prog.underlying t = some (.slice e)) (hi5 : (Try.prog.info? e).map (fun i => (i.zero, i.size, i.bytes)) = some (some z, 1, by_)) (hz : z.cells.size = 1) (hby : by_ ≤ 64)
    (ho : o.op = .call { callee := .builtin .append, args := #[s, y], argTypes := #[t, t] })
    {base : Nat} {v : Value} {n g c : Nat} {f : Nat → Value} (hs : a.eval s = v) (hy : a.eval y = .slice (some ⟨g, 0, none⟩) 1 c) (hO : OwnV w base e v n f) (hc : w.cell? ⟨g, 0, none⟩ = some x) (hx : x = f n) (h1 : x.oneCell' = true) (h : n ≤ 1000000) (hbase : base ≤ w.heap.size)
    (hK : ∀ v' w', OwnV w' base e v' (n + 1) f → Below base w w' → wpList Try.prog ops Q rest (a.put o.dst v') w') : wpList Try.prog ops Q (o :: rest) a w := by
  obtain ⟨v', w', hr, h2, h3⟩ := run_appV (c := c) o.type hu hi5 hz hby hO hc hx h1 h hbase
  exact Lib.wpList_append_run w hgd s y _ _ ho _ _ hs hy v' w' hr (hK v' w' h2 h3)
theorem step_appV {E : Prop} (hgd : o.guard = none) (s y : Operand) {t e by_ : Nat} {z x : Value} (hu : Try.prog.underlying t = some (.slice e)) (hi5 : (Try.prog.info? e).map (fun i => (i.zero, i.size, i.bytes)) = some (some z, 1, by_)) (hz : z.cells.size = 1) (hby : by_ ≤ 64)
    (ho : o.op = .call { callee := .builtin .append, args := #[s, y], argTypes := #[t, t] })
    {base : Nat} {v : Value} {n g c : Nat} {f : Nat → Value} (hs : a.eval s = v) (hy : a.eval y = .slice (some ⟨g, 0, none⟩) 1 c) (hO : OwnV w base e v n f) (hc : w.cell? ⟨g, 0, none⟩ = some x) (hx : x = f n) (h1 : x.oneCell' = true) (h : n ≤ 1000000) (hbase : base ≤ w.heap.size)
    (hK : ∀ v' w', OwnV w' base e v' (n + 1) f → Below base w w' → K (a.put o.dst v') w') :
    if Region.wanted o (yielded ops a.tmps) = true then Oper.wp Try.prog o a w K Q else E := by
  have hw : Region.wanted o (yielded ops a.tmps) = true := by simp [Region.wanted, hgd]
  rw [if_pos hw]
  obtain ⟨v', w', hr, h2, h3⟩ := run_appV (c := c) o.type hu hi5 hz hby hO hc hx h1 h hbase
  exact Lib.wp_append_run w s y _ _ ho _ _ hs hy v' w' hr (hK v' w' h2 h3)
end
end Go.Proofs.Ytncampbmnbhikaa
