/-
  Rows of numbers by a function; how long a run is; make of numbers.
-/
import Derived.Test.YtecaegjonhimmaaMgR
namespace Go.Proofs.Ytecaegjonhimmaa
set_option linter.unusedVariables false
set_option linter.unusedSimpArgs false
open Go.RowKit Go.Shelf

/-- a row of n numbers -/
def NRow (w : World) (g n : Nat) (p : Nat → Nat) : Prop := Blk w g 3 (Array.ofFn (fun s : Fin n => (.int .i64 (p s) : Value)))
section
variable {w w' : World} {g n : Nat} {p : Nat → Nat}
theorem NRow.cell (h : NRow w g n p) {s : Nat} (hs : s < n) : w.cell? ⟨g, s, none⟩ = some (.int .i64 (p s)) := by
  have := Blk.cell h s
  rw [this]
  simp [hs]
theorem NRow.frozen (h : NRow w g n p) (s : Nat) : w.frozen? ⟨g, s, none⟩ = false := Blk.frozen h s
theorem NRow.lt (h : NRow w g n p) : g < w.heap.size := Blk.lt h
theorem NRow.kept (h : NRow w g n p) (hb : Below w.heap.size w w') : NRow w' g n p := Blk.kept h hb
theorem NRow.tch {S : Nat → Prop} (h : NRow w g n p) (ht : Tch S w w') (hs : ¬ S g) : NRow w' g n p := Blk.tch h ht hs
theorem NRow.set (h : NRow w g n p) (s v : Nat) : NRow (w.setCell ⟨g, s, none⟩ (.int .i64 v)) g n (updN p s v) := by
  refine Blk.set' h s _ ?_
  apply Array.ext
  · simp
  · intro i h1 h2
    have hi : i < n := by simpa using h2
    rw [Array.getElem_ofFn]
    by_cases e : s = i
    · subst e
      rw [Array.getElem_setIfInBounds_self]
      unfold updN
      rw [if_pos rfl]
    · rw [Array.getElem_setIfInBounds_ne (by simpa using hi) e, Array.getElem_ofFn]
      unfold updN
      rw [if_neg (fun h => e h.symm)]
end
theorem info_i64 : (Try.prog.info? 3).map (fun i => (i.zero, i.size, i.bytes)) = some (some (.int .i64 0), 1, 8) := by kernel_rfl
theorem run_mkI (W : World) (n : Nat) (hn : n ≤ 1000000) : (Instr.makeSlice 49 (.int .i64 n) (.int .i64 n)).run Try.prog W = .ok (.slice (some ⟨W.heap.size, 0, none⟩) n n) (W.alloc (.cells (Array.ofFn (fun s : Fin n => (.int .i64 ((fun _ => 0 : Nat → Nat) s) : Value))) 3)) := by
  obtain ⟨i0, hi0, hz0, hz1, hz2⟩ := info_parts info_i64
  have h := run_makeSlice (P := Try.prog) (w := W) 49 3 i0 _ Try.underlying49 hi0 hz0 .i64 .i64 n n (by omega) (by omega) (by rw [hz1]; simp; omega) (by rw [hz2]; omega) (by omega)
  rw [h, hz1]
  have e : madeCells (Value.int .i64 0).cells ((n : Int).toNat * 1) = Array.ofFn (fun s : Fin n => (.int .i64 ((fun _ => 0 : Nat → Nat) s) : Value)) := by
    unfold madeCells
    apply Array.ext
    · simp
    · intro i h1 h2
      simp [Value.cells, Nat.mod_one]
  rw [e]
  rfl
def sumN : Nat → (Nat → Nat) → Nat
  | 0, _ => 0
  | n + 1, p => sumN n p + p n
theorem sumN_far {p : Nat → Nat} {b v : Nat} : ∀ {n}, n ≤ b → sumN n (updN p b v) = sumN n p
  | 0, _ => rfl
  | n + 1, h => by
    unfold sumN
    rw [sumN_far (by omega)]
    unfold updN
    rw [if_neg (by omega)]
theorem sumN_upd {p : Nat → Nat} {b : Nat} : ∀ {n}, b < n → sumN n (updN p b (p b + 1)) = sumN n p + 1
  | 0, h => by omega
  | n + 1, h => by
    unfold sumN
    by_cases e : b = n
    · subst e
      rw [sumN_far (Nat.le_refl _)]
      unfold updN
      rw [if_pos rfl]; omega
    · rw [sumN_upd (by omega)]
      unfold updN
      rw [if_neg (fun h => e h.symm)]; omega
theorem sumN_le {p q : Nat → Nat} : ∀ {n}, (∀ s, s < n → p s ≤ q s) → sumN n p ≤ sumN n q
  | 0, _ => Nat.le_refl _
  | n + 1, h => by
    unfold sumN
    have := sumN_le (n := n) (p := p) (q := q) (fun s hs => h s (by omega))
    have := h n (by omega)
    omega
theorem sumN_lt {p q : Nat → Nat} {b : Nat} : ∀ {n}, (∀ s, s < n → p s ≤ q s) → b < n → p b < q b → sumN n p < sumN n q
  | 0, _, h, _ => by omega
  | n + 1, h, hb, hl => by
    unfold sumN
    have h1 := h n (by omega)
    by_cases e : b = n
    · subst e
      have := sumN_le (n := b) (p := p) (q := q) (fun s hs => h s (by omega))
      omega
    · have := sumN_lt (n := n) (p := p) (q := q) (fun s hs => h s (by omega)) (by omega) hl
      omega
theorem sumN_const {q : Nat → Nat} {c : Nat} : ∀ {n}, (∀ s, s < n → q s ≤ c) → sumN n q ≤ n * c
  | 0, _ => by simp [sumN]
  | n + 1, h => by
    unfold sumN
    have := sumN_const (n := n) (q := q) (c := c) (fun s hs => h s (by omega))
    have := h n (by omega)
    rw [Nat.add_mul]; omega
theorem Runs.le {S : Sys} {dn : Bool} {l : List (Nat → Int)} {hd : Nat → Nat} (h : Runs S dn (fun _ => 0) l hd) : (∀ s, s < S.K → hd s ≤ S.len s) ∧ sumN S.K hd = l.length := by
  induction h with
  | nil =>
    refine ⟨fun s _ => Nat.zero_le _, ?_⟩
    have : ∀ n, sumN n (fun _ => 0) = 0 := fun n => by
      induction n with
      | zero => rfl
      | succ n ih => unfold sumN; omega
    simpa using this _
  | @snoc l hd b h1 h2 ih =>
    refine ⟨fun s hs => ?_, ?_⟩
    · unfold updN
      split
      · rename_i e; subst e; exact h2.2.1
      · exact ih.1 s hs
    · rw [sumN_upd h2.1, ih.2]; simp
theorem Runs.room {S : Sys} {dn : Bool} {l : List (Nat → Int)} {hd : Nat → Nat} {b : Nat} (h : Runs S dn (fun _ => 0) l hd) (hb : b < S.K) (hl : hd b < S.len b) : l.length < sumN S.K S.len := by
  rw [← h.le.2]
  exact sumN_lt h.le.1 hb hl
end Go.Proofs.Ytecaegjonhimmaa
