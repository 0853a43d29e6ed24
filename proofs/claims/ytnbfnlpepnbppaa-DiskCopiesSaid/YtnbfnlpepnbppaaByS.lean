/-
  Slices of bytes that read as so many bytes; an append that must grow, in a region.
-/
import Derived.Test.YtnbfnlpepnbppaaRecC
namespace Go.Proofs.Ytnbfnlpepnbppaa
set_option linter.unusedVariables false
set_option linter.unusedSimpArgs false
open Go.RowKit

/-- the value v is a slice of n bytes d -/
def ByS (w : World) (v : Value) (n : Nat) (d : Nat → Int) : Prop := ∃ A c, v = .slice A n c ∧ n ≤ c ∧ c ≤ maxLen ∧ SlIs w A n (yV d)
theorem OwnB.byS {w : World} {base : Nat} {v : Value} {n : Nat} {d : Nat → Int} (h : OwnB w base v n d) : ByS w v n d := by
  obtain ⟨A, c, rfl, hs⟩ := h.slis
  obtain ⟨_, h2⟩ := h
  rcases h2 with ⟨e, rfl⟩ | ⟨g, cap, cur, e, _, _, h3, h4, _⟩
  · cases e; exact ⟨none, 0, rfl, Nat.le_refl _, by simp [maxLen], hs⟩
  · cases e; exact ⟨_, _, rfl, h3, h4, hs⟩
theorem ByS.below {w w' : World} {v : Value} {n : Nat} {d : Nat → Int} (h : ByS w v n d) (hb : Below w.heap.size w w') : ByS w' v n d := by
  obtain ⟨A, c, e, h1, h2, h3⟩ := h
  exact ⟨A, c, e, h1, h2, h3.below hb⟩
theorem ByS.congr {w : World} {v : Value} {n : Nat} {d e : Nat → Int} (h : ByS w v n d) (hd : ∀ i, i < n → d i = e i) : ByS w v n e := by
  obtain ⟨A, c, e', h1, h2, h3⟩ := h
  exact ⟨A, c, e', h1, h2, h3.congr (fun i hi => by unfold yV; rw [hd i hi])⟩
theorem byS_row {w : World} {g : Nat} {t : TypeId} {n m c off : Nat} {d : Nat → Int} (h : w.rowIs g t n (yV d)) (h1 : off + m ≤ n) (h2 : m ≤ c) (h3 : c ≤ maxLen) : ByS w (.slice (some ⟨g, off, none⟩) m c) m (fun i => d (off + i)) :=
  ⟨_, _, rfl, h2, h3, fun _ => ⟨g, off, rfl, h.lt, fun j hj => h.cell (by omega)⟩⟩

section
variable {P : Program} {w : World}
theorem wp_append_grows {o : Oper} {a : Act} {K : Act → World → Prop} {Q : Exit → Act → World → Prop}
    (s x : Operand) (t : TypeId) (hop : o.op = Op.call { callee := Callee.builtin Builtin.append, args := #[s, x], argTypes := #[t, t] })
    (e : TypeId) (i : TypeInfo) (z : Value) (size bytes : Nat) (h1 : P.underlying t = some (.slice e)) (h2 : P.info? e = some i) (h3 : i.zero = some z) (h4 : i.size = size) (h5 : i.bytes = bytes) (h6 : z.cells.size = size) (h7 : 0 < size)
    (b : Addr) (n cap : Nat) (olds : List Value) (hs : a.eval s = .slice (some b) n cap) (hlo : olds.length = n * size) (holds : ∀ j u, olds[j]? = some u → w.cell? (b.add j) = some u)
    (ad : Addr) (m c : Nat) (news : List Value) (hx : a.eval x = .slice (some ad) m c) (hn : news.length = m * size) (hc : ∀ j u, news[j]? = some u → w.cell? (ad.add j) = some u)
    (hfull : cap < n + m) (b1 : n + m ≤ maxLen) (b2 : (n + m) * bytes ≤ 140737488355328)
    (hK : ∀ v' w', w'.ownsRow w.heap.size e size v' (n + m) (olds ++ news) → w.grownBy w' none → K (a.put o.dst v') w') : o.wp P a w K Q := by
  obtain ⟨v', w', hrun, r1, r2⟩ := run_append_arg_grows (P := P) w t o.type e i z size bytes h1 h2 h3 h4 h5 h6 h7 b n cap olds hlo holds ad m c news hn hc hfull b1 b2
  unfold Oper.wp
  simp [execOp, hop, resolve, invoke, builtin, hs, hx, hrun, Result.andThen]
  exact hK v' w' r1 r2
theorem step_append_grows {ops : Array Oper} {o : Oper} {a : Act} {K : Act → World → Prop} {Q : Exit → Act → World → Prop} {E : Prop} (hgd : o.guard = none)
    (s x : Operand) (t : TypeId) (hop : o.op = Op.call { callee := Callee.builtin Builtin.append, args := #[s, x], argTypes := #[t, t] })
    (e : TypeId) (i : TypeInfo) (z : Value) (size bytes : Nat) (h1 : P.underlying t = some (.slice e)) (h2 : P.info? e = some i) (h3 : i.zero = some z) (h4 : i.size = size) (h5 : i.bytes = bytes) (h6 : z.cells.size = size) (h7 : 0 < size)
    (b : Addr) (n cap : Nat) (olds : List Value) (hs : a.eval s = .slice (some b) n cap) (hlo : olds.length = n * size) (holds : ∀ j u, olds[j]? = some u → w.cell? (b.add j) = some u)
    (ad : Addr) (m c : Nat) (news : List Value) (hx : a.eval x = .slice (some ad) m c) (hn : news.length = m * size) (hc : ∀ j u, news[j]? = some u → w.cell? (ad.add j) = some u)
    (hfull : cap < n + m) (b1 : n + m ≤ maxLen) (b2 : (n + m) * bytes ≤ 140737488355328)
    (hK : ∀ v' w', w'.ownsRow w.heap.size e size v' (n + m) (olds ++ news) → w.grownBy w' none → K (a.put o.dst v') w') :
    if Region.wanted o (yielded ops a.tmps) = true then Oper.wp P o a w K Q else E := by
  have hw : Region.wanted o (yielded ops a.tmps) = true := by simp [Region.wanted, hgd]
  rw [if_pos hw]
  exact wp_append_grows s x t hop e i z size bytes h1 h2 h3 h4 h5 h6 h7 b n cap olds hs hlo holds ad m c news hx hn hc hfull b1 b2 hK
end
theorem grownBy_bel {w w' : World} (h : w.grownBy w' none) : Below w.heap.size w w' := ⟨h.os, h.tape, h.output, h.size, fun i hi => h.block i hi (by simp)⟩
theorem own_cat {w : World} {base : Nat} {v : Value} {n m : Nat} {d e : Nat → Int} (h : w.ownsRow base 5 1 v (n + m) (yL d n ++ yL e m)) : OwnB w base v (n + m) (cat d n e) := by
  unfold OwnB; rw [yL_cat]; exact h
/-- the cells behind an address -/
theorem news_slis {w : World} {b o m : Nat} {d : Nat → Int} (h : ∀ j, j < m → w.cell? ⟨b, o + j, none⟩ = some (yV d j)) {n : Nat} (hn : n ≤ m) : ∀ j u, (yL d n)[j]? = some u → w.cell? ((⟨b, o, none⟩ : Addr).add j) = some u := by
  intro j u hu
  have hj : j < n := by
    rcases Nat.lt_or_ge j n with h1 | h1
    · exact h1
    · rw [List.getElem?_eq_none (by rw [yL_len]; exact h1)] at hu; cases hu
  have e : (⟨b, o, none⟩ : Addr).add j = ⟨b, o + j, none⟩ := by unfold Addr.add; split <;> simp_all
  rw [e, h j (by omega), yL_at d n j u hu]
theorem olds_one {w : World} {g : Nat} {v : Value} (h : w.cell? ⟨g, 0, none⟩ = some v) : ∀ j u, [v][j]? = some u → w.cell? ((⟨g, 0, none⟩ : Addr).add j) = some u := by
  intro j u hu
  cases j with
  | zero => cases hu; exact h
  | succ j => simp at hu
theorem keepc_n {W w1 : World} (hb : Below W.heap.size W w1) {b o m : Nat} {f : Nat → Value} (h : ∀ j, j < m → W.cell? ⟨b, o + j, none⟩ = some (f j)) : ∀ j, j < m → w1.cell? ⟨b, o + j, none⟩ = some (f j) := fun j hj => keepc hb (h j hj)
end Go.Proofs.Ytnbfnlpepnbppaa
