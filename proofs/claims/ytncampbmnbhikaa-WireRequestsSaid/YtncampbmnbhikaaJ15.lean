/-
  Joined: RecT SsA Wre.
-/
import Derived.Test.YtncampbmnbhikaaRefD
import Derived.Test.YtncampbmnbhikaaRecG
import Derived.Test.YtncampbmnbhikaaJ2
import Derived.Test.YtncampbmnbhikaaJ7
import Derived.Test.YtncampbmnbhikaaJ11
import Derived.Test.YtncampbmnbhikaaJ10
import Derived.Test.YtncampbmnbhikaaJ9
-- RecT
namespace Go.Proofs.Ytncampbmnbhikaa
set_option linter.unusedVariables false
set_option linter.unusedSimpArgs false
open Go.RowKit

/-- v where there are k bytes -/
def gv (n k : Nat) (v : Int) : Int := if n = k then v else 0
theorem gv_yes (k : Nat) (v : Int) : gv k k v = v := if_pos rfl
theorem gv_no {n k : Nat} (v : Int) (h : n ≠ k) : gv n k v = 0 := if_neg h
theorem getFilter_all (A : Option Addr) (n c : Nat) (e : Nat → Int) (he : ∀ i, 0 ≤ e i ∧ e i < 256) (hmc : n ≤ c) (hC : c ≤ maxLen) (w : World) (hs : SlIs w A n (yV e)) : Calls Try.prog 68 #[.slice A n c] w fun r w' => r = .returned (.tuple #[.agg #[.int .u64 (gv n 40 (num e 0 8)), .int .u64 (gv n 40 (num e 8 8)), .int .u64 (gv n 40 (num e 16 8)), .int .u64 (gv n 40 (num e 24 8)), .int .u32 (gv n 40 (num e 32 4)), .int .u32 (gv n 40 (num e 36 4))], .bool (decide (n = 40))]) ∧ Below w.heap.size w w' := by
  by_cases h : n = 40
  · subst h
    have h1 := getFilter_yes A c e he hmc hC w hs
    simp only [gv_yes, decide_true]
    exact h1
  · have h1 := getFilter_no A n c (by omega) h w
    simp only [gv_no _ h, h, decide_false]
    exact h1
theorem refGetFilter_all (n : Nat) (e : Nat → Int) (he : ∀ i, 0 ≤ e i ∧ e i < 256) (hn : n ≤ maxLen) (w : World) : Calls Try.prog 50 #[.string (strF e n)] w fun r w' => r = .returned (.tuple #[.agg #[.int .u64 (gv n 40 (num e 0 8)), .int .u64 (gv n 40 (num e 8 8)), .int .u64 (gv n 40 (num e 16 8)), .int .u64 (gv n 40 (num e 24 8)), .int .u32 (gv n 40 (num e 32 4)), .int .u32 (gv n 40 (num e 36 4))], .bool (decide (n = 40))]) ∧ Below w.heap.size w w' := by
  by_cases h : n = 40
  · subst h
    have h1 := refGetFilter_yes e he w
    simp only [gv_yes, decide_true]
    exact h1
  · have h1 := refGetFilter_no n e hn h w
    simp only [gv_no _ h, h, decide_false]
    exact h1
theorem getResult_all (A : Option Addr) (n c : Nat) (e : Nat → Int) (he : ∀ i, 0 ≤ e i ∧ e i < 256) (hmc : n ≤ c) (hC : c ≤ maxLen) (w : World) (hs : SlIs w A n (yV e)) : Calls Try.prog 32 #[.slice A n c] w fun r w' => r = .returned (.tuple #[.agg #[.int .u32 (gv n 8 (num e 0 4)), .int .u32 (gv n 8 (num e 4 4))], .bool (decide (n = 8))]) ∧ Below w.heap.size w w' := by
  by_cases h : n = 8
  · subst h
    have h1 := getResult_yes A c e he hmc hC w hs
    simp only [gv_yes, decide_true]
    exact h1
  · have h1 := getResult_no A n c (by omega) h w
    simp only [gv_no _ h, h, decide_false]
    exact h1
theorem refGetResult_all (n : Nat) (e : Nat → Int) (he : ∀ i, 0 ≤ e i ∧ e i < 256) (hn : n ≤ maxLen) (w : World) : Calls Try.prog 39 #[.string (strF e n)] w fun r w' => r = .returned (.tuple #[.agg #[.int .u32 (gv n 8 (num e 0 4)), .int .u32 (gv n 8 (num e 4 4))], .bool (decide (n = 8))]) ∧ Below w.heap.size w w' := by
  by_cases h : n = 8
  · subst h
    have h1 := refGetResult_yes e he w
    simp only [gv_yes, decide_true]
    exact h1
  · have h1 := refGetResult_no n e hn h w
    simp only [gv_no _ h, h, decide_false]
    exact h1
theorem getBalance_all (A : Option Addr) (n c : Nat) (e : Nat → Int) (he : ∀ i, 0 ≤ e i ∧ e i < 256) (hmc : n ≤ c) (hC : c ≤ maxLen) (w : World) (hs : SlIs w A n (yV e)) : Calls Try.prog 38 #[.slice A n c] w fun r w' => r = .returned (.tuple #[.agg #[.int .u64 (gv n 72 (num e 0 8)), .int .u64 (gv n 72 (num e 8 8)), .int .u64 (gv n 72 (num e 16 8)), .int .u64 (gv n 72 (num e 24 8)), .int .u64 (gv n 72 (num e 32 8)), .int .u64 (gv n 72 (num e 40 8)), .int .u64 (gv n 72 (num e 48 8)), .int .u64 (gv n 72 (num e 56 8)), .int .u64 (gv n 72 (num e 64 8))], .bool (decide (n = 72))]) ∧ Below w.heap.size w w' := by
  by_cases h : n = 72
  · subst h
    have h1 := getBalance_yes A c e he hmc hC w hs
    simp only [gv_yes, decide_true]
    exact h1
  · have h1 := getBalance_no A n c (by omega) h w
    simp only [gv_no _ h, h, decide_false]
    exact h1
theorem refGetBalance_all (n : Nat) (e : Nat → Int) (he : ∀ i, 0 ≤ e i ∧ e i < 256) (hn : n ≤ maxLen) (w : World) : Calls Try.prog 42 #[.string (strF e n)] w fun r w' => r = .returned (.tuple #[.agg #[.int .u64 (gv n 72 (num e 0 8)), .int .u64 (gv n 72 (num e 8 8)), .int .u64 (gv n 72 (num e 16 8)), .int .u64 (gv n 72 (num e 24 8)), .int .u64 (gv n 72 (num e 32 8)), .int .u64 (gv n 72 (num e 40 8)), .int .u64 (gv n 72 (num e 48 8)), .int .u64 (gv n 72 (num e 56 8)), .int .u64 (gv n 72 (num e 64 8))], .bool (decide (n = 72))]) ∧ Below w.heap.size w w' := by
  by_cases h : n = 72
  · subst h
    have h1 := refGetBalance_yes e he w
    simp only [gv_yes, decide_true]
    exact h1
  · have h1 := refGetBalance_no n e hn h w
    simp only [gv_no _ h, h, decide_false]
    exact h1
theorem getAccount_all (A : Option Addr) (n c : Nat) (e : Nat → Int) (he : ∀ i, 0 ≤ e i ∧ e i < 256) (hmc : n ≤ c) (hC : c ≤ maxLen) (w : World) (hs : SlIs w A n (yV e)) : Calls Try.prog 34 #[.slice A n c] w fun r w' => r = .returned (.tuple #[.agg #[.int .u64 (gv n 104 (num e 0 8)), .int .u64 (gv n 104 (num e 8 8)), .int .u64 (gv n 104 (num e 16 8)), .int .u64 (gv n 104 (num e 24 8)), .int .u64 (gv n 104 (num e 32 8)), .int .u64 (gv n 104 (num e 40 8)), .int .u64 (gv n 104 (num e 48 8)), .int .u64 (gv n 104 (num e 56 8)), .int .u64 (gv n 104 (num e 64 8)), .int .u64 (gv n 104 (num e 72 8)), .int .u64 (gv n 104 (num e 80 8)), .int .u32 (gv n 104 (num e 88 4)), .int .u16 (gv n 104 (num e 92 2)), .int .u16 (gv n 104 (num e 94 2)), .int .u64 (gv n 104 (num e 96 8))], .bool (decide (n = 104))]) ∧ Below w.heap.size w w' := by
  by_cases h : n = 104
  · subst h
    have h1 := getAccount_yes A c e he hmc hC w hs
    simp only [gv_yes, decide_true]
    exact h1
  · have h1 := getAccount_no A n c (by omega) h w
    simp only [gv_no _ h, h, decide_false]
    exact h1
theorem refGetAccount_all (n : Nat) (e : Nat → Int) (he : ∀ i, 0 ≤ e i ∧ e i < 256) (hn : n ≤ maxLen) (w : World) : Calls Try.prog 40 #[.string (strF e n)] w fun r w' => r = .returned (.tuple #[.agg #[.int .u64 (gv n 104 (num e 0 8)), .int .u64 (gv n 104 (num e 8 8)), .int .u64 (gv n 104 (num e 16 8)), .int .u64 (gv n 104 (num e 24 8)), .int .u64 (gv n 104 (num e 32 8)), .int .u64 (gv n 104 (num e 40 8)), .int .u64 (gv n 104 (num e 48 8)), .int .u64 (gv n 104 (num e 56 8)), .int .u64 (gv n 104 (num e 64 8)), .int .u64 (gv n 104 (num e 72 8)), .int .u64 (gv n 104 (num e 80 8)), .int .u32 (gv n 104 (num e 88 4)), .int .u16 (gv n 104 (num e 92 2)), .int .u16 (gv n 104 (num e 94 2)), .int .u64 (gv n 104 (num e 96 8))], .bool (decide (n = 104))]) ∧ Below w.heap.size w w' := by
  by_cases h : n = 104
  · subst h
    have h1 := refGetAccount_yes e he w
    simp only [gv_yes, decide_true]
    exact h1
  · have h1 := refGetAccount_no n e hn h w
    simp only [gv_no _ h, h, decide_false]
    exact h1
theorem getTransfer_all (A : Option Addr) (n c : Nat) (e : Nat → Int) (he : ∀ i, 0 ≤ e i ∧ e i < 256) (hmc : n ≤ c) (hC : c ≤ maxLen) (w : World) (hs : SlIs w A n (yV e)) : Calls Try.prog 36 #[.slice A n c] w fun r w' => r = .returned (.tuple #[.agg #[.int .u64 (gv n 108 (num e 0 8)), .int .u64 (gv n 108 (num e 8 8)), .int .u64 (gv n 108 (num e 16 8)), .int .u64 (gv n 108 (num e 24 8)), .int .u64 (gv n 108 (num e 32 8)), .int .u64 (gv n 108 (num e 40 8)), .int .u64 (gv n 108 (num e 48 8)), .int .u64 (gv n 108 (num e 56 8)), .int .u64 (gv n 108 (num e 64 8)), .int .u64 (gv n 108 (num e 72 8)), .int .u64 (gv n 108 (num e 80 8)), .int .u32 (gv n 108 (num e 88 4)), .int .u32 (gv n 108 (num e 92 4)), .int .u16 (gv n 108 (num e 96 2)), .int .u16 (gv n 108 (num e 98 2)), .int .u64 (gv n 108 (num e 100 8))], .bool (decide (n = 108))]) ∧ Below w.heap.size w w' := by
  by_cases h : n = 108
  · subst h
    have h1 := getTransfer_yes A c e he hmc hC w hs
    simp only [gv_yes, decide_true]
    exact h1
  · have h1 := getTransfer_no A n c (by omega) h w
    simp only [gv_no _ h, h, decide_false]
    exact h1
theorem refGetTransfer_all (n : Nat) (e : Nat → Int) (he : ∀ i, 0 ≤ e i ∧ e i < 256) (hn : n ≤ maxLen) (w : World) : Calls Try.prog 41 #[.string (strF e n)] w fun r w' => r = .returned (.tuple #[.agg #[.int .u64 (gv n 108 (num e 0 8)), .int .u64 (gv n 108 (num e 8 8)), .int .u64 (gv n 108 (num e 16 8)), .int .u64 (gv n 108 (num e 24 8)), .int .u64 (gv n 108 (num e 32 8)), .int .u64 (gv n 108 (num e 40 8)), .int .u64 (gv n 108 (num e 48 8)), .int .u64 (gv n 108 (num e 56 8)), .int .u64 (gv n 108 (num e 64 8)), .int .u64 (gv n 108 (num e 72 8)), .int .u64 (gv n 108 (num e 80 8)), .int .u32 (gv n 108 (num e 88 4)), .int .u32 (gv n 108 (num e 92 4)), .int .u16 (gv n 108 (num e 96 2)), .int .u16 (gv n 108 (num e 98 2)), .int .u64 (gv n 108 (num e 100 8))], .bool (decide (n = 108))]) ∧ Below w.heap.size w w' := by
  by_cases h : n = 108
  · subst h
    have h1 := refGetTransfer_yes e he w
    simp only [gv_yes, decide_true]
    exact h1
  · have h1 := refGetTransfer_no n e hn h w
    simp only [gv_no _ h, h, decide_false]
    exact h1
end Go.Proofs.Ytncampbmnbhikaa
-- SsA
namespace Go.Proofs.Ytncampbmnbhikaa
set_option linter.unusedVariables false
set_option linter.unusedSimpArgs false
open Go.RowKit

theorem fm_len {f : Nat → List Value} {k : Nat} (hf : ∀ i, (f i).length = k) : ∀ n, ((List.range n).flatMap f).length = n * k
  | 0 => by simp
  | n + 1 => by rw [List.range_succ, List.flatMap_append, List.length_append, fm_len hf n]; simp [hf, Nat.add_mul]
theorem fm_at {f : Nat → List Value} {k : Nat} (hf : ∀ i, (f i).length = k) {i j : Nat} (hj : j < k) : ∀ {n : Nat}, i < n → ((List.range n).flatMap f)[i * k + j]? = (f i)[j]?
  | 0, h => by omega
  | n + 1, h => by
    rw [List.range_succ, List.flatMap_append]
    rcases Nat.lt_or_ge i n with h1 | h1
    · have : i * k + j < n * k := by
        have := Nat.mul_le_mul_right k (show i + 1 ≤ n from h1)
        rw [Nat.add_mul] at this; omega
      rw [List.getElem?_append_left (by rw [fm_len hf]; exact this)]
      exact fm_at hf hj h1
    · obtain rfl : i = n := by omega
      rw [List.getElem?_append_right (by rw [fm_len hf]; omega), fm_len hf, Nat.add_sub_cancel_left]
      simp
/-- a row of the call's own of n structs of k cells each, the i-th has the cells f i -/
def OwnS (w : World) (base : Nat) (e : TypeId) (k : Nat) (v : Value) (n : Nat) (f : Nat → List Value) : Prop := w.ownsRow base e k v n ((List.range n).flatMap f)
theorem OwnS.nil (w : World) (base : Nat) (e : TypeId) (k : Nat) (f : Nat → List Value) : OwnS w base e k (.slice none 0 0) 0 f := World.ownsRow_nil w base _ _
theorem OwnS.kept {w w' : World} {base : Nat} {e : TypeId} {k : Nat} {v : Value} {n : Nat} {f : Nat → List Value} (h : OwnS w base e k v n f) (hb : Below w.heap.size w w') : OwnS w' base e k v n f := own_below h hb
theorem OwnS.ssis {w : World} {base : Nat} {e : TypeId} {k : Nat} {v : Value} {n : Nat} {f : Nat → List Value} (h : OwnS w base e k v n f) (hf : ∀ i, (f i).length = k) : ∃ A c, v = .slice A n c ∧ n ≤ c ∧ c ≤ maxLen ∧ SsIs w A n k f := by
  obtain ⟨hl, h2⟩ := h
  rcases h2 with ⟨rfl, rfl⟩ | ⟨g, cap, cur, rfl, hb, hh, h3, h4, h5, h6⟩
  · exact ⟨none, 0, rfl, Nat.le_refl _, by simp [maxLen], SsIs.nil⟩
  · refine ⟨_, _, rfl, h3, h4, fun hm => ⟨g, 0, rfl, ?_, fun i hi j u hu => ?_⟩⟩
    · obtain ⟨hlt, _⟩ := Array.getElem?_eq_some_iff.1 hh
      exact hlt
    · have hj : j < k := by
        rcases Nat.lt_or_ge j k with h | h
        · exact h
        · rw [List.getElem?_eq_none (by rw [hf]; exact h)] at hu; cases hu
      have hx := fm_at hf hj hi
      rw [hu, ← h6, List.getElem?_take] at hx
      have hlt : i * k + j < n * k := by
        have := Nat.mul_le_mul_right k (show i + 1 ≤ n from hi)
        rw [Nat.add_mul] at this; omega
      rw [if_pos hlt, Array.getElem?_toList] at hx
      rw [Nat.zero_add, cell_of_row w g _ cur e (0, 0) hh, hx]
theorem Blk.newE {w : World} {t : TypeId} {cs : Array Value} {l : List Value} {n : Nat} (hn : n = w.heap.size) (e : cs = l.toArray) : Blk (w.alloc (.cells cs t)) n t l.toArray := by
  subst hn; subst e
  exact Blk.new _ _ _
theorem run_appS {w : World} {base t e by_ k : Nat} {v z : Value} {n g c : Nat} {f : Nat → List Value} {t0 : TypeId} (ty : TypeId) (hu : Try.prog.underlying t = some (.slice e)) (hi5 : (Try.prog.info? e).map (fun i => (i.zero, i.size, i.bytes)) = some (some z, k, by_)) (hz : z.cells.size = k) (hk : 0 < k) (hby : by_ ≤ 256)
    (ho : OwnS w base e k v n f) (hl : (f n).length = k) (hB : Blk w g t0 (f n).toArray) (h1 : ∀ u ∈ f n, u.oneCell' = true) (h : n ≤ 1000000) (hbase : base ≤ w.heap.size) :
    ∃ v' w', (Builtin.append_ #[t, t] ty #[v, .slice (some ⟨g, 0, none⟩) 1 c]).run Try.prog w = .ok v' w' ∧ OwnS w' base e k v' (n + 1) f ∧ Below base w w' := by
  obtain ⟨i0, hi0, hz0, hz1, hz2⟩ := info_parts hi5
  have hb : (n + 1) * by_ ≤ 140737488355328 := Nat.le_trans (Nat.mul_le_mul (show n + 1 ≤ 1000001 by omega) hby) (by decide)
  obtain ⟨v', w', hr, h2, h3, _⟩ := run_append_own (P := Try.prog) w base t ty e i0 _ k by_ hu hi0 hz0 hz1 hz2 hz hk v n _ ho ⟨g, 0, none⟩ 1 c (f n) (by rw [hl, Nat.one_mul]) (news_blk hB) h1 (by unfold maxLen; omega) hb hbase
  refine ⟨v', w', hr, ?_, Below.grown (Below.refl base w) h3 hbase (fun j hj => (ho.lt j hj).1)⟩
  unfold OwnS
  rw [List.range_succ, List.flatMap_append]
  simpa using h2
section
variable {ops : Array Oper} {rest : List Oper} {o : Oper} {a : Act} {w : World} {Q : Exit → Act → World → Prop} {K : Act → World → Prop}
theorem wpList_appS (hgd : o.guard = none) (s y : Operand) {t e by_ k : Nat} {z : Value} {t0 : TypeId} (hu : Try.prog.underlying t = some (.slice e)) (hi5 : (Try.prog.info? e).map (fun i => (i.zero, i.size, i.bytes)) = some (some z, k, by_)) (hz : z.cells.size = k) (hk : 0 < k) (hby : by_ ≤ 256)
    (ho : o.op = .call { callee := .builtin .append, args := #[s, y], argTypes := #[t, t] })
    {base : Nat} {v : Value} {n g c : Nat} {f : Nat → List Value} (hs : a.eval s = v) (hy : a.eval y = .slice (some ⟨g, 0, none⟩) 1 c) (hO : OwnS w base e k v n f) (hl : (f n).length = k) (hB : Blk w g t0 (f n).toArray) (h1 : ∀ u ∈ f n, u.oneCell' = true) (h : n ≤ 1000000) (hbase : base ≤ w.heap.size)
    (hK : ∀ v' w', OwnS w' base e k v' (n + 1) f → Below base w w' → wpList Try.prog ops Q rest (a.put o.dst v') w') : wpList Try.prog ops Q (o :: rest) a w := by
  obtain ⟨v', w', hr, h2, h3⟩ := run_appS (c := c) o.type hu hi5 hz hk hby hO hl hB h1 h hbase
  exact Lib.wpList_append_run w hgd s y _ _ ho _ _ hs hy v' w' hr (hK v' w' h2 h3)
end
end Go.Proofs.Ytncampbmnbhikaa
-- Wre
namespace Go.Proofs.Ytncampbmnbhikaa
set_option linter.unusedVariables false
set_option linter.unusedSimpArgs false
open Go.RowKit

def rdU (e : Nat → Int) : Nat → Int := fun j => ([num e 0 8, num e 8 8] : List Int).getD j 0
theorem info_WU : (Try.prog.info? 42).map (fun i => (i.zero, i.size, i.bytes)) = some (some (.agg #[.int .u64 0, .int .u64 0]), 2, 16) := by kernel_rfl
theorem one_clU (f : Nat → Int) : ∀ u ∈ clU f, u.oneCell' = true := fun u hu => List.all_eq_true.1 (show (clU f).all Value.oneCell' = true from rfl) u hu
theorem getU_ok (A : Option Addr) (c : Nat) (e : Nat → Int) (he : ∀ i, 0 ≤ e i ∧ e i < 256) (hmc : 16 ≤ c) (hC : c ≤ maxLen) (w : World) (hs : SlIs w A 16 (yV e)) : Calls Try.prog 67 #[.slice A 16 c] w fun r w' => r = .returned (.tuple #[.agg #[.int .u64 (rdU e 0), .int .u64 (rdU e 1)], .bool true]) ∧ Below w.heap.size w w' := read_yes A c e he w hs
def rdR (e : Nat → Int) : Nat → Int := fun j => ([num e 0 4, num e 4 4] : List Int).getD j 0
theorem info_WR : (Try.prog.info? 58).map (fun i => (i.zero, i.size, i.bytes)) = some (some (.agg #[.int .u32 0, .int .u32 0]), 2, 8) := by kernel_rfl
theorem one_clR (f : Nat → Int) : ∀ u ∈ clR f, u.oneCell' = true := fun u hu => List.all_eq_true.1 (show (clR f).all Value.oneCell' = true from rfl) u hu
theorem getR_ok (A : Option Addr) (c : Nat) (e : Nat → Int) (he : ∀ i, 0 ≤ e i ∧ e i < 256) (hmc : 8 ≤ c) (hC : c ≤ maxLen) (w : World) (hs : SlIs w A 8 (yV e)) : Calls Try.prog 32 #[.slice A 8 c] w fun r w' => r = .returned (.tuple #[.agg #[.int .u32 (rdR e 0), .int .u32 (rdR e 1)], .bool true]) ∧ Below w.heap.size w w' := getResult_yes A c e he hmc hC w hs
def rdB (e : Nat → Int) : Nat → Int := fun j => ([num e 0 8, num e 8 8, num e 16 8, num e 24 8, num e 32 8, num e 40 8, num e 48 8, num e 56 8, num e 64 8] : List Int).getD j 0
theorem info_WB : (Try.prog.info? 71).map (fun i => (i.zero, i.size, i.bytes)) = some (some (.agg #[.int .u64 0, .int .u64 0, .int .u64 0, .int .u64 0, .int .u64 0, .int .u64 0, .int .u64 0, .int .u64 0, .int .u64 0]), 9, 72) := by kernel_rfl
theorem one_clB (f : Nat → Int) : ∀ u ∈ clB f, u.oneCell' = true := fun u hu => List.all_eq_true.1 (show (clB f).all Value.oneCell' = true from rfl) u hu
theorem getB_ok (A : Option Addr) (c : Nat) (e : Nat → Int) (he : ∀ i, 0 ≤ e i ∧ e i < 256) (hmc : 72 ≤ c) (hC : c ≤ maxLen) (w : World) (hs : SlIs w A 72 (yV e)) : Calls Try.prog 38 #[.slice A 72 c] w fun r w' => r = .returned (.tuple #[.agg #[.int .u64 (rdB e 0), .int .u64 (rdB e 1), .int .u64 (rdB e 2), .int .u64 (rdB e 3), .int .u64 (rdB e 4), .int .u64 (rdB e 5), .int .u64 (rdB e 6), .int .u64 (rdB e 7), .int .u64 (rdB e 8)], .bool true]) ∧ Below w.heap.size w w' := getBalance_yes A c e he hmc hC w hs
def rdA (e : Nat → Int) : Nat → Int := fun j => ([num e 0 8, num e 8 8, num e 16 8, num e 24 8, num e 32 8, num e 40 8, num e 48 8, num e 56 8, num e 64 8, num e 72 8, num e 80 8, num e 88 4, num e 92 2, num e 94 2, num e 96 8] : List Int).getD j 0
theorem info_WA : (Try.prog.info? 63).map (fun i => (i.zero, i.size, i.bytes)) = some (some (.agg #[.int .u64 0, .int .u64 0, .int .u64 0, .int .u64 0, .int .u64 0, .int .u64 0, .int .u64 0, .int .u64 0, .int .u64 0, .int .u64 0, .int .u64 0, .int .u32 0, .int .u16 0, .int .u16 0, .int .u64 0]), 15, 104) := by kernel_rfl
theorem one_clA (f : Nat → Int) : ∀ u ∈ clA f, u.oneCell' = true := fun u hu => List.all_eq_true.1 (show (clA f).all Value.oneCell' = true from rfl) u hu
theorem getA_ok (A : Option Addr) (c : Nat) (e : Nat → Int) (he : ∀ i, 0 ≤ e i ∧ e i < 256) (hmc : 104 ≤ c) (hC : c ≤ maxLen) (w : World) (hs : SlIs w A 104 (yV e)) : Calls Try.prog 34 #[.slice A 104 c] w fun r w' => r = .returned (.tuple #[.agg #[.int .u64 (rdA e 0), .int .u64 (rdA e 1), .int .u64 (rdA e 2), .int .u64 (rdA e 3), .int .u64 (rdA e 4), .int .u64 (rdA e 5), .int .u64 (rdA e 6), .int .u64 (rdA e 7), .int .u64 (rdA e 8), .int .u64 (rdA e 9), .int .u64 (rdA e 10), .int .u32 (rdA e 11), .int .u16 (rdA e 12), .int .u16 (rdA e 13), .int .u64 (rdA e 14)], .bool true]) ∧ Below w.heap.size w w' := getAccount_yes A c e he hmc hC w hs
def rdT (e : Nat → Int) : Nat → Int := fun j => ([num e 0 8, num e 8 8, num e 16 8, num e 24 8, num e 32 8, num e 40 8, num e 48 8, num e 56 8, num e 64 8, num e 72 8, num e 80 8, num e 88 4, num e 92 4, num e 96 2, num e 98 2, num e 100 8] : List Int).getD j 0
theorem info_WT : (Try.prog.info? 67).map (fun i => (i.zero, i.size, i.bytes)) = some (some (.agg #[.int .u64 0, .int .u64 0, .int .u64 0, .int .u64 0, .int .u64 0, .int .u64 0, .int .u64 0, .int .u64 0, .int .u64 0, .int .u64 0, .int .u64 0, .int .u32 0, .int .u32 0, .int .u16 0, .int .u16 0, .int .u64 0]), 16, 112) := by kernel_rfl
theorem one_clT (f : Nat → Int) : ∀ u ∈ clT f, u.oneCell' = true := fun u hu => List.all_eq_true.1 (show (clT f).all Value.oneCell' = true from rfl) u hu
theorem getT_ok (A : Option Addr) (c : Nat) (e : Nat → Int) (he : ∀ i, 0 ≤ e i ∧ e i < 256) (hmc : 108 ≤ c) (hC : c ≤ maxLen) (w : World) (hs : SlIs w A 108 (yV e)) : Calls Try.prog 36 #[.slice A 108 c] w fun r w' => r = .returned (.tuple #[.agg #[.int .u64 (rdT e 0), .int .u64 (rdT e 1), .int .u64 (rdT e 2), .int .u64 (rdT e 3), .int .u64 (rdT e 4), .int .u64 (rdT e 5), .int .u64 (rdT e 6), .int .u64 (rdT e 7), .int .u64 (rdT e 8), .int .u64 (rdT e 9), .int .u64 (rdT e 10), .int .u32 (rdT e 11), .int .u32 (rdT e 12), .int .u16 (rdT e 13), .int .u16 (rdT e 14), .int .u64 (rdT e 15)], .bool true]) ∧ Below w.heap.size w w' := getTransfer_yes A c e he hmc hC w hs
end Go.Proofs.Ytncampbmnbhikaa
