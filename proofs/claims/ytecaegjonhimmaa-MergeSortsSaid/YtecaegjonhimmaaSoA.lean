/-
  A list of lists of numbers that came as an argument, opened; copy inside a row of structs; insertion, plain laws.
-/
import Derived.Test.YtecaegjonhimmaaMgX
import Derived.Test.YtecaegjonhimmaaMgW
namespace Go.Proofs.Ytecaegjonhimmaa
set_option linter.unusedVariables false
set_option linter.unusedSimpArgs false
open Go.ChangeShapes Go.WideShapes Go.Deep Go.ChangeAt Go.RowKit Go.Shelf

/-- n lists of whole numbers -/
def UsIs (W : World) (A : Option Addr) (n : Nat) (ln : Nat → Nat) (q : Nat → Nat → Int) : Prop :=
  0 < n → ∃ b o, A = some ⟨b, o, none⟩ ∧ b < W.heap.size ∧ ∀ i, i < n → ∃ Ai ci, W.cell? ⟨b, o + i, none⟩ = some (.slice Ai (ln i) ci) ∧ ln i ≤ ci ∧ ci ≤ maxLen ∧ SlIs W Ai (ln i) (fun j => .int .u64 (q i j))
theorem UsIs.kept {w w' : World} {A : Option Addr} {n : Nat} {ln : Nat → Nat} {q : Nat → Nat → Int} (h : UsIs w A n ln q) (hb : Below w.heap.size w w') : UsIs w' A n ln q := fun hn => by
  obtain ⟨b, o, e, hl, hc⟩ := h hn
  refine ⟨b, o, e, Nat.lt_of_lt_of_le hl hb.size, fun i hi => ?_⟩
  obtain ⟨Ai, ci, h1, h2, h3, h4⟩ := hc i hi
  refine ⟨Ai, ci, keepc hb h1, h2, h3, fun hm => ?_⟩
  obtain ⟨b1, o1, e1, hl1, hc1⟩ := h4 hm
  exact ⟨b1, o1, e1, Nat.lt_of_lt_of_le hl1 hb.size, fun j hj => keepc hb (hc1 j hj)⟩
theorem open_us {H : Type} {enc : TypeId × Value → H} {W : World} {b : Nat} {sp : Nat → Bool} {hd : Bool} {fuel : Nat} {cs : List Value} {x : DataW H × List MemPlace} (hf : DataW.trod enc Try.prog W b sp hd fuel 46 cs = some x) :
    ∃ (A : Option Addr) (n c : Nat) (q : Nat → Int), cs = [.slice A n c] ∧ n ≤ c ∧ c ≤ maxLen ∧ SlIs W A n (fun j => .int .u64 (q j)) := by
  rcases open_slice Try.underlying46 hf with ⟨h1, _⟩ | ⟨a, n, c, m, n', D, Pl, h1, hb, hl, hm, hmm, hx, hi⟩
  · subst h1
    exact ⟨none, 0, 0, fun _ => 0, rfl, Nat.le_refl _, by simp [maxLen], SlIs.nil⟩
  · subst h1
    have hlm : n ≤ m := by rw [hmm]; split <;> omega
    have key : ∀ i, ∃ z : Int, i < n → W.cell? (a.add i) = some (.int .u64 z) := by
      intro i
      by_cases hil : i < n
      · obtain ⟨cs', hc, ht'⟩ := hi i (by omega)
        rw [show Try.prog.cellsOf 29 = 1 by kernel_rfl, Nat.mul_one] at hc
        obtain ⟨z0, e0, _, w0⟩ := DataW.trod_int Try.underlying29 ht'
        obtain ⟨v, e1, hv⟩ := one_cell' hc
        rw [e0] at e1; cases e1
        exact ⟨z0, fun _ => hv⟩
      · exact ⟨0, fun h => absurd h hil⟩
    obtain ⟨q, hq⟩ := Classical.axiomOfChoice key
    refine ⟨_, _, _, q, rfl, hl, hm, fun hn => ?_⟩
    obtain ⟨e, h2, h3⟩ := at_form (f := fun i => .int .u64 (q i)) (fun i h => hq i h) hn
    exact ⟨a.block, a.off, by rw [← e], h2, h3⟩
theorem open_uss {H : Type} {enc : TypeId × Value → H} {W : World} {v : Value} {d : DataW H} {p : List MemPlace} {b : Nat} {sp : Nat → Bool} {hd : Bool} (hcell : ∃ A n c, v = .slice A n c) (h : DataW.Trod enc Try.prog W b sp hd 44 v d p) :
    ∃ (A : Option Addr) (n c : Nat) (L : (Nat → Nat) × (Nat → Nat → Int)), v = .slice A n c ∧ n ≤ c ∧ c ≤ maxLen ∧ UsIs W A n L.1 L.2 := by
  obtain ⟨A, n, c, rfl⟩ := hcell
  obtain ⟨fuel, hf⟩ := h
  rcases open_slice Try.underlying44 hf with ⟨h1, _⟩ | ⟨a, n, c, m, n', D, Pl, h1, hb, hl, hm, hmm, hx, hi⟩
  · cases h1
    exact ⟨none, 0, 0, (fun _ => 0, fun _ _ => 0), rfl, Nat.le_refl _, by simp [maxLen], fun h => by omega⟩
  · cases h1
    have hlm : n ≤ m := by rw [hmm]; split <;> omega
    have key : ∀ i, ∃ q : Option Addr × Nat × Nat × (Nat → Int), i < n → W.cell? (a.add i) = some (.slice q.1 q.2.2.1 q.2.1) ∧ q.2.2.1 ≤ q.2.1 ∧ q.2.1 ≤ maxLen ∧ SlIs W q.1 q.2.2.1 (fun j => .int .u64 (q.2.2.2 j)) := by
      intro i
      by_cases hil : i < n
      · obtain ⟨cs', hc, ht'⟩ := hi i (by omega)
        rw [show Try.prog.cellsOf 46 = 1 by kernel_rfl, Nat.mul_one] at hc
        obtain ⟨A', n1, c', l, e0, q1, q2, q3⟩ := open_us ht'
        obtain ⟨v, e1, hv⟩ := one_cell' hc
        rw [e0] at e1; cases e1
        exact ⟨⟨A', c', n1, l⟩, fun _ => ⟨hv, q1, q2, q3⟩⟩
      · exact ⟨⟨none, 0, 0, fun _ => 0⟩, fun h => absurd h hil⟩
    obtain ⟨q, hq⟩ := Classical.axiomOfChoice key
    refine ⟨_, _, _, (fun i => (q i).2.2.1, fun i => (q i).2.2.2), rfl, hl, hm, fun hn => ?_⟩
    obtain ⟨e, h2, h3⟩ := at_form (f := fun i => .slice (q i).1 (q i).2.2.1 (q i).2.1) (fun i h => (hq i h).1) hn
    exact ⟨a.block, a.off, by rw [← e], h2, fun i hi => ⟨(q i).1, (q i).2.1, h3 i hi, (hq i hi).2⟩⟩
/-- 'copy' where each element has k cells -/
theorem run_copy_rowK {P : Program} (w : World) (dT sT ty elem : TypeId) (g o dLen dCap : Nat) (a : Addr) (sLen sCap k : Nat) (cur : Array Value) (t : TypeId) (cs : List Value)
    (hu : P.underlying dT = some (.slice elem)) (hs : (P.info? elem).map (·.size) = some k)
    (hg : w.heap[g]? = some (.cells cur t (0, 0))) (hn : cs.length = Nat.min sLen dLen * k)
    (hsrc : ∀ j v, cs[j]? = some v → w.cell? (a.add j) = some v) (hfit : o + cs.length ≤ cur.size) (h1 : ∀ v ∈ cs, v.oneCell' = true) :
    (Builtin.copy_ #[dT, sT] ty #[.slice (some ⟨g, o, none⟩) dLen dCap, .slice (some a) sLen sCap]).run P w =
      .ok (.int .i64 (Nat.min sLen dLen : Nat)) (w.setRow g (cur.toList.take o ++ cs ++ cur.toList.drop (o + cs.length)).toArray) := by
  have hl := run_loadCells_list (P := P) w a cs hsrc
  have hst := run_storeCells_at P g o t cs 0 cur w hg (by simpa using hfit) h1
  cases hq : P.info? elem with
  | none => simp [hq] at hs
  | some i =>
    have hi : i.size = k := by simpa [hq] using hs
    simp [Builtin.copy_, run_underlying hu, Builtin.lenOf, Builtin.firstCells, sizeOf, typeInfo, hq, hi, ← hn, hl, hst, goInt]
theorem run_copy_zeroK {P : Program} {w : World} (dT sT ty elem : TypeId) {A B : Option Addr} {dLen dCap sLen sCap k : Nat} (hu : P.underlying dT = some (.slice elem)) (hs : (P.info? elem).map (·.size) = some k) (hm : Nat.min sLen dLen = 0) :
    (Builtin.copy_ #[dT, sT] ty #[.slice A dLen dCap, .slice B sLen sCap]).run P w = .ok (.int .i64 0) w := by
  obtain ⟨i, hi, hi1⟩ := Option.map_eq_some_iff.1 hs
  cases A <;> cases B <;> simp [Builtin.copy_, run_underlying hu, sizeOf, typeInfo, hi, Builtin.lenOf, Builtin.firstCells, hm, loadCells, loadCellsFrom, storeCells, goInt]
theorem rowC_add {f : Nat → List Value} (a b : Nat) : rowC (a + b) f = rowC a f ++ rowC b (fun i => f (a + i)) := by
  unfold rowC
  rw [List.range_add, List.flatMap_append, List.flatMap_map]
/-- copy inside one row of structs -/
theorem run_copy_in {P : Program} {w : World} (T ty elem : TypeId) {g cap a b m k dLen dCap sLen sCap : Nat} {t : TypeId} {F : Nat → List Value} (hu : P.underlying T = some (.slice elem)) (hs : (P.info? elem).map (·.size) = some k)
    (h : Blk w g t (rowC cap F).toArray) (hf : ∀ i, (F i).length = k) (hm : m = Nat.min sLen dLen) (ha : a + m ≤ cap) (hb : b + m ≤ cap) (h1 : ∀ i, i < m → ∀ u ∈ F (b + i), u.oneCell' = true) :
    (Builtin.copy_ #[T, T] ty #[.slice (some ⟨g, a * k, none⟩) dLen dCap, .slice (some ⟨g, b * k, none⟩) sLen sCap]).run P w = .ok (.int .i64 m) (w.setRow g (rowC cap (fun i => if a ≤ i ∧ i < a + m then F (b + (i - a)) else F i)).toArray) := by
  have hlen : (rowC m (fun i => F (b + i))).length = m * k := rowC_len (fun i => hf _) m
  have hlenc : (rowC cap F).length = cap * k := rowC_len hf cap
  have hak : a * k + m * k ≤ cap * k := by rw [← Nat.add_mul]; exact Nat.mul_le_mul_right k ha
  have hrun := run_copy_rowK (P := P) w T T ty elem g (a * k) dLen dCap ⟨g, b * k, none⟩ sLen sCap k _ t (rowC m (fun i => F (b + i))) hu hs h (by rw [hlen, hm]) (fun j v hj => by
    have hjm : j < m * k := by have := (List.getElem?_eq_some_iff.1 hj).1; omega
    have e : (⟨g, b * k, none⟩ : Addr).add j = ⟨g, b * k + j, none⟩ := by unfold Addr.add; split <;> simp_all
    rw [e, Blk.cell h (b * k + j), List.getElem?_toArray]
    obtain ⟨r, hr⟩ : ∃ r, cap = b + m + r := ⟨cap - (b + m), by omega⟩
    rw [hr, rowC_add, rowC_add, List.append_assoc, List.getElem?_append_right (by rw [rowC_len hf]; omega), rowC_len hf, Nat.add_sub_cancel_left, List.getElem?_append_left (by rw [hlen]; exact hjm)]
    exact hj) (by rw [hlen]; simp [hlenc]; omega) (fun v hv => by
    unfold rowC at hv
    rw [List.mem_flatMap] at hv
    obtain ⟨i, hi, hv⟩ := hv
    exact h1 i (by simpa using hi) v hv)
  rw [← hm] at hrun
  rw [hrun]
  congr 3
  rw [hlen]
  obtain ⟨r, hr⟩ : ∃ r, cap = a + m + r := ⟨cap - (a + m), by omega⟩
  rw [hr, rowC_add (a + m) r, rowC_add a m, rowC_add (a + m) r, rowC_add a m]
  have e1 : rowC a (fun i => if a ≤ i ∧ i < a + m then F (b + (i - a)) else F i) = rowC a F := rowC_congr (fun i hi => by rw [if_neg (by omega)])
  have e2 : rowC m (fun i => (fun i => if a ≤ i ∧ i < a + m then F (b + (i - a)) else F i) (a + i)) = rowC m (fun i => F (b + i)) := rowC_congr (fun i hi => by
    dsimp only
    rw [if_pos (by omega), show b + (a + i - a) = b + i by omega])
  have e3 : rowC r (fun i => (fun i => if a ≤ i ∧ i < a + m then F (b + (i - a)) else F i) (a + m + i)) = rowC r (fun i => F (a + m + i)) := rowC_congr (fun i hi => by
    dsimp only
    rw [if_neg (by omega)])
  rw [e1, e2, e3]
  have hla : (rowC a F).length = a * k := rowC_len hf a
  have hlm : (rowC m (fun i => F (a + i))).length = m * k := rowC_len (fun i => hf _) m
  simp only [List.append_assoc]
  rw [List.take_append_of_le_length (by omega), List.take_of_length_le (by omega)]
  congr 2
  rw [← List.append_assoc, List.drop_append, List.drop_of_length_le (by rw [List.length_append]; omega), List.nil_append, List.length_append, hla, hlm, Nat.sub_self, List.drop_zero]
theorem bel_setRw {B g : Nat} {w0 w : World} (hb : Below B w0 w) (hBg : B ≤ g) (cs : Array Value) : Below B w0 (w.setRow g cs) :=
  ⟨hb.os, hb.tape, hb.output, by unfold World.setRow; simpa using hb.size, fun k hk => by
    unfold World.setRow
    rw [← hb.block k hk]
    simp only [Array.getElem?_modify]
    rw [if_neg (by omega)]⟩
theorem info_Isz : (Try.prog.info? 34).map (·.size) = some 4 := by kernel_rfl
/-- room made for one at place j -/
theorem copy_ins {w : World} {g cap n j : Nat} {R : Nat → List Value} (h : Blk w g 34 (rowC cap R).toArray) (hf : ∀ i, (R i).length = 4) (hk : n + 1 ≤ cap) (hj : j ≤ n) (h1 : ∀ i, i < n → ∀ u ∈ R i, u.oneCell' = true) :
    ∃ w' z, (Builtin.copy_ #[38, 38] 3 #[.slice (if cap = j + 1 then some ⟨g, 0, none⟩ else some ⟨g, (j + 1) * 4, none⟩) (n + 1 - (j + 1)) (cap - (j + 1)), .slice (some ⟨g, j * 4, none⟩) (n + 1 - j) (cap - j)]).run Try.prog w = .ok (.int .i64 z) w' ∧ Blk w' g 34 (rowC cap (fun i => if j + 1 ≤ i ∧ i < n + 1 then R (i - 1) else R i)).toArray ∧ ∀ B w0, Below B w0 w → B ≤ g → Below B w0 w' := by
  by_cases e : j = n
  · subst e
    refine ⟨w, 0, run_copy_zeroK _ _ _ _ Try.underlying38 info_Isz (by simp [Nat.min_def]), ?_, fun _ _ hb _ => hb⟩
    rw [rowC_congr (g := R) (fun i hi => by rw [if_neg (by omega)])]
    exact h
  · rw [if_neg (by omega)]
    have hr := run_copy_in (P := Try.prog) 38 3 _ (a := j + 1) (b := j) (m := n - j) (dLen := n + 1 - (j + 1)) (dCap := cap - (j + 1)) (sLen := n + 1 - j) (sCap := cap - j) Try.underlying38 info_Isz h hf (by show n - j = min (n + 1 - j) (n + 1 - (j + 1)); omega) (by omega) (by omega) (fun i hi => h1 _ (by omega))
    refine ⟨_, _, hr, ?_, fun B w0 hb hB => bel_setRw hb hB _⟩
    rw [rowC_congr (g := fun i => if j + 1 ≤ i ∧ i < n + 1 then R (i - 1) else R i) (fun i hi => by
      by_cases e2 : j + 1 ≤ i ∧ i < n + 1
      · rw [if_pos e2, if_pos (by omega), show j + (i - (j + 1)) = i - 1 by omega]
      · rw [if_neg e2, if_neg (by omega)])]
    exact setRow_heap w g _ _ _ _ h
/-- an item put into a row of items -/
def insF (F : Nat → Nat → Int) (j : Nat) (x : Nat → Int) : Nat → Nat → Int := fun i => if i < j then F i else if i = j then x else F (i - 1)
/-- in order by their stamps, all of one side -/
def SortF (m s : Nat) (F : Nat → Nat → Int) : Prop := (∀ i, i + 1 < m → F i 0 ≤ F (i + 1) 0) ∧ ∀ i, i < m → F i 3 = s
theorem SortF.ins {m s j : Nat} {F : Nat → Nat → Int} {x : Nat → Int} (h : SortF m s F) (hj : j ≤ m) (h1 : j = 0 ∨ F (j - 1) 0 ≤ x 0) (h2 : ∀ i, j ≤ i → i < m → x 0 < F i 0) (h3 : x 3 = s) : SortF (m + 1) s (insF F j x) := by
  refine ⟨fun i hi => ?_, fun i hi => ?_⟩
  · unfold insF
    rcases Nat.lt_trichotomy (i + 1) j with e | e | e
    · rw [if_pos (by omega), if_pos e]; exact h.1 i (by omega)
    · rw [if_pos (by omega), if_neg (by omega), if_pos e]
      rcases h1 with h1 | h1
      · omega
      · rw [show j - 1 = i by omega] at h1; exact h1
    · rw [if_neg (show ¬ i + 1 < j by omega), if_neg (show ¬ i + 1 = j by omega), if_neg (show ¬ i < j by omega), Nat.add_sub_cancel]
      by_cases e2 : i = j
      · rw [if_pos e2]
        have := h2 i (by omega) (by omega)
        omega
      · rw [if_neg e2]
        have := h.1 (i - 1) (by omega)
        rw [show i - 1 + 1 = i by omega] at this
        exact this
  · unfold insF
    split
    · exact h.2 i (by omega)
    · split
      · exact h3
      · exact h.2 (i - 1) (by omega)
end Go.Proofs.Ytecaegjonhimmaa
