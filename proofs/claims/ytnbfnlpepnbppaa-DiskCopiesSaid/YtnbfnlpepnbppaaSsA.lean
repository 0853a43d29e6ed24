/-
  A row of the call's own of structs: each of as many cells; appends to it.
-/
import Derived.Test.YtnbfnlpepnbppaaSs
import Derived.Test.YtnbfnlpepnbppaaAppB
namespace Go.Proofs.Ytnbfnlpepnbppaa
set_option linter.unusedVariables false
set_option linter.unusedSimpArgs false
open Go.RowKit

theorem fm_len {f : Nat → List Value} {k : Nat} (hf : ∀ i, (f i).length = k) : ∀ n, ((List.range n).flatMap f).length = n * k
  | 0 => by simp
  | n + 1 => by rw [List.range_succ, List.flatMap_append, List.length_append, fm_len hf n]; simp [hf, Nat.add_mul]
theorem fm_at {f : Nat → List Value} {k : Nat} (hf : ∀ i, (f i).length = k) {i j : Nat} (hj : j < k) : ∀ {n : Nat}, i < n → ((List.range n).flatMap f)[i * k + j]? = (f i)[j]?
  | 0, h => by omega
  | n + 1, h => by
    rw [List.range_succ, List.flatMap_append]
    rcases Nat.lt_or_ge i n with h1 | h1
    · have : i * k + j < n * k := by
        have := Nat.mul_le_mul_right k (show i + 1 ≤ n from h1)
        rw [Nat.add_mul] at this; omega
      rw [List.getElem?_append_left (by rw [fm_len hf]; exact this)]
      exact fm_at hf hj h1
    · obtain rfl : i = n := by omega
      rw [List.getElem?_append_right (by rw [fm_len hf]; omega), fm_len hf, Nat.add_sub_cancel_left]
      simp
/-- a row of the call's own of n structs of k cells each, the i-th has the cells f i -/
def OwnS (w : World) (base : Nat) (e : TypeId) (k : Nat) (v : Value) (n : Nat) (f : Nat → List Value) : Prop := w.ownsRow base e k v n ((List.range n).flatMap f)
theorem OwnS.nil (w : World) (base : Nat) (e : TypeId) (k : Nat) (f : Nat → List Value) : OwnS w base e k (.slice none 0 0) 0 f := World.ownsRow_nil w base _ _
theorem OwnS.kept {w w' : World} {base : Nat} {e : TypeId} {k : Nat} {v : Value} {n : Nat} {f : Nat → List Value} (h : OwnS w base e k v n f) (hb : Below w.heap.size w w') : OwnS w' base e k v n f := own_below h hb
theorem OwnS.ssis {w : World} {base : Nat} {e : TypeId} {k : Nat} {v : Value} {n : Nat} {f : Nat → List Value} (h : OwnS w base e k v n f) (hf : ∀ i, (f i).length = k) : ∃ A c, v = .slice A n c ∧ n ≤ c ∧ c ≤ maxLen ∧ SsIs w A n k f := by
  obtain ⟨hl, h2⟩ := h
  rcases h2 with ⟨rfl, rfl⟩ | ⟨g, cap, cur, rfl, hb, hh, h3, h4, h5, h6⟩
  · exact ⟨none, 0, rfl, Nat.le_refl _, by simp [maxLen], SsIs.nil⟩
  · refine ⟨_, _, rfl, h3, h4, fun hm => ⟨g, 0, rfl, ?_, fun i hi j u hu => ?_⟩⟩
    · obtain ⟨hlt, _⟩ := Array.getElem?_eq_some_iff.1 hh
      exact hlt
    · have hj : j < k := by
        rcases Nat.lt_or_ge j k with h | h
        · exact h
        · rw [List.getElem?_eq_none (by rw [hf]; exact h)] at hu; cases hu
      have hx := fm_at hf hj hi
      rw [hu, ← h6, List.getElem?_take] at hx
      have hlt : i * k + j < n * k := by
        have := Nat.mul_le_mul_right k (show i + 1 ≤ n from hi)
        rw [Nat.add_mul] at this; omega
      rw [if_pos hlt, Array.getElem?_toList] at hx
      rw [Nat.zero_add, cell_of_row w g _ cur e (0, 0) hh, hx]
theorem Blk.newE {w : World} {t : TypeId} {cs : Array Value} {l : List Value} {n : Nat} (hn : n = w.heap.size) (e : cs = l.toArray) : Blk (w.alloc (.cells cs t)) n t l.toArray := by
  subst hn; subst e
  exact Blk.new _ _ _
theorem run_appS {w : World} {base t e by_ k : Nat} {v z : Value} {n g c : Nat} {f : Nat → List Value} {t0 : TypeId} (ty : TypeId) (hu : Try.prog.underlying t = some (.slice e)) (hi5 : (Try.prog.info? e).map (fun i => (i.zero, i.size, i.bytes)) = some (some z, k, by_)) (hz : z.cells.size = k) (hk : 0 < k) (hby : by_ ≤ 256)
    (ho : OwnS w base e k v n f) (hl : (f n).length = k) (hB : Blk w g t0 (f n).toArray) (h1 : ∀ u ∈ f n, u.oneCell' = true) (h : n ≤ 1000000) (hbase : base ≤ w.heap.size) :
    ∃ v' w', (Builtin.append_ #[t, t] ty #[v, .slice (some ⟨g, 0, none⟩) 1 c]).run Try.prog w = .ok v' w' ∧ OwnS w' base e k v' (n + 1) f ∧ Below base w w' := by
  obtain ⟨i0, hi0, hz0, hz1, hz2⟩ := info_parts hi5
  have hb : (n + 1) * by_ ≤ 140737488355328 := Nat.le_trans (Nat.mul_le_mul (show n + 1 ≤ 1000001 by omega) hby) (by decide)
  obtain ⟨v', w', hr, h2, h3, _⟩ := run_append_own (P := Try.prog) w base t ty e i0 _ k by_ hu hi0 hz0 hz1 hz2 hz hk v n _ ho ⟨g, 0, none⟩ 1 c (f n) (by rw [hl, Nat.one_mul]) (news_blk hB) h1 (by unfold maxLen; omega) hb hbase
  refine ⟨v', w', hr, ?_, Below.grown (Below.refl base w) h3 hbase (fun j hj => (ho.lt j hj).1)⟩
  unfold OwnS
  rw [List.range_succ, List.flatMap_append]
  simpa using h2
section
variable {ops : Array Oper} {rest : List Oper} {o : Oper} {a : Act} {w : World} {Q : Exit → Act → World → Prop} {K : Act → World → Prop}
theorem wpList_appS (hgd : o.guard = none) (s y : Operand) {t e by_ k : Nat} {z : Value} {t0 : TypeId} (hu : Try.prog.underlying t = some (.slice e)) (hi5 : (Try.prog.info? e).map (fun i => (i.zero, i.size, i.bytes)) = some (some z, k, by_)) (hz : z.cells.size = k) (hk : 0 < k) (hby : by_ ≤ 256)
    (ho : o.op = .call { callee := .builtin .append, args := #[s, y], argTypes := #[t, t] })
    {base : Nat} {v : Value} {n g c : Nat} {f : Nat → List Value} (hs : a.eval s = v) (hy : a.eval y = .slice (some ⟨g, 0, none⟩) 1 c) (hO : OwnS w base e k v n f) (hl : (f n).length = k) (hB : Blk w g t0 (f n).toArray) (h1 : ∀ u ∈ f n, u.oneCell' = true) (h : n ≤ 1000000) (hbase : base ≤ w.heap.size)
    (hK : ∀ v' w', OwnS w' base e k v' (n + 1) f → Below base w w' → wpList Try.prog ops Q rest (a.put o.dst v') w') : wpList Try.prog ops Q (o :: rest) a w := by
  obtain ⟨v', w', hr, h2, h3⟩ := run_appS (c := c) o.type hu hi5 hz hk hby hO hl hB h1 h hbase
  exact Lib.wpList_append_run w hgd s y _ _ ho _ _ hs hy v' w' hr (hK v' w' h2 h3)
end
end Go.Proofs.Ytnbfnlpepnbppaa
