/-
  Whole rows of cells, known by their index.
-/
import Derived.Test.YtnbfnlpepnbppaaTail
import Derived.Deep.OwnRows
namespace Go.Proofs.Ytnbfnlpepnbppaa
set_option linter.unusedVariables false
set_option linter.unusedSimpArgs false
open Go.RowKit

theorem rowIs_drewN {w : World} {b : Nat} {t : TypeId} {n : Nat} {f : Nat → Value} (h : w.rowIs b t n f) (k : Nat) : (w.drewN k).rowIs b t n f := h
theorem rowIs_of {w : World} {c : Array Value} {t : TypeId} {f : Nat → Value} {b n : Nat} (hb : b = w.heap.size) (hn : c.size = n) (hc : ∀ i, i < n → c[i]? = some (f i)) : (w.alloc (.cells c t)).rowIs b t n f := by
  subst hb; subst hn; exact World.rowIs_alloc w c t f hc
theorem rowIs_zero {w : World} {c : Array Value} {t : TypeId} {b n : Nat} (z : Value) (hb : b = w.heap.size) (hc : c = Array.replicate n z) : (w.alloc (.cells c t)).rowIs b t n (fun _ => z) := by
  subst hc
  exact rowIs_of hb (by simp) (fun i hi => by simp [hi])
theorem rowIs_list {w : World} {l : List Value} {t : TypeId} {b n : Nat} {f : Nat → Value} (hb : b = w.heap.size) (hn : l.length = n) (hc : ∀ i, i < n → l[i]? = some (f i)) : (w.alloc (.cells l.toArray t)).rowIs b t n f :=
  rowIs_of hb (by simpa using hn) (fun i hi => by simpa using hc i hi)
theorem rowIs_below {w w' : World} {B b : Nat} {t : TypeId} {n : Nat} {f : Nat → Value} (h : w.rowIs b t n f) (hb : Below B w w') (hB : b < B) : w'.rowIs b t n f := h.of_block (hb.block b hB)
theorem rowIs_grow {w d : World} {b : Nat} {t : TypeId} {n : Nat} {f : Nat → Value} (h : w.rowIs b t n f) : (Grow w d).rowIs b t n f := h.of_block ((grow_below w d).block b h.lt)
theorem rowIs_cellB {w w' : World} {b : Nat} {t : TypeId} {n : Nat} {f : Nat → Value} (h : w.rowIs b t n f) (hb : Below w.heap.size w w') {i : Nat} (hi : i < n) : w'.cell? ⟨b, i, none⟩ = some (f i) := (rowIs_below h hb h.lt).cell hi

theorem Below.drewN {B : Nat} {a w : World} (h : Below B a w) (n : Nat) : Below B a (w.drewN n) := ⟨h.os, h.tape, h.output, h.size, h.block⟩
theorem rowIs_two {w : World} {b : Nat} {t : TypeId} {f g : Nat → Value} {v0 v1 : Value} (h : w.rowIs b t 2 f) (h0 : g 0 = v0) (h1 : g 1 = v1) : ((w.setCell ⟨b, 0, none⟩ v0).setCell ⟨b, 1, none⟩ v1).rowIs b t 2 g := by
  subst h0; subst h1
  refine ((h.set 0 _).set 1 _).congr (fun i hi => ?_)
  rcases (by omega : i = 0 ∨ i = 1) with rfl | rfl <;> rfl
/-- a known cell is kept where memory is only made -/
theorem keepc {W w1 : World} (hb : Below W.heap.size W w1) {p : Addr} {v : Value} (h : W.cell? p = some v) : w1.cell? p = some v := by
  rw [hb.cell (World.block_lt_of_cell? W p h)]; exact h

theorem keeps {W : World} {p q : Addr} {v u : Value} (hp : p.block ≠ q.block) (h : W.cell? p = some v) : (W.setCell q u).cell? p = some v := by
  rw [World.cell?_setCell_other W q p u (fun e => hp (by rw [e]))]; exact h

theorem keepa {W : World} {p : Addr} {v : Value} {o o' : Obj} (hp : p.block < W.heap.size) (h : (W.alloc o).cell? p = some v) : (W.alloc o').cell? p = some v := by
  rw [World.cell?_alloc_lt W o p hp] at h
  rw [World.cell?_alloc_lt W o' p hp]; exact h

/-- a word of 64 bits -/
def Wd (x : Int) : Prop := 0 ≤ x ∧ x < 18446744073709551616
/-- a list of bytes' values -/
def bV (l : List UInt8) (i : Nat) : Value := .int .u8 ((l.getD i 0).toNat : Int)
/-- integers' values -/
def iV (d : Nat → Int) (j : Nat) : Value := .int .i64 (d j)
theorem fcongr {f g : Nat → Value} (n : Nat) {w : World} {b : Nat} {t : TypeId} (h : w.rowIs b t n f) (e : ∀ i, i < n → f i = g i) : w.rowIs b t n g := h.congr e
end Go.Proofs.Ytnbfnlpepnbppaa
