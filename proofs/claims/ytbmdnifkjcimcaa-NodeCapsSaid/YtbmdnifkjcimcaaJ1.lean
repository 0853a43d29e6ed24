/-
  Joined: Row Slice Blk.
-/
import Derived.Test.YtbmdnifkjcimcaaTail
import Derived.Deep.OwnRows
-- Row
namespace Go.Proofs.Ytbmdnifkjcimcaa
set_option linter.unusedVariables false
set_option linter.unusedSimpArgs false
open Go.RowKit

theorem rowIs_drewN {w : World} {b : Nat} {t : TypeId} {n : Nat} {f : Nat → Value} (h : w.rowIs b t n f) (k : Nat) : (w.drewN k).rowIs b t n f := h
theorem rowIs_of {w : World} {c : Array Value} {t : TypeId} {f : Nat → Value} {b n : Nat} (hb : b = w.heap.size) (hn : c.size = n) (hc : ∀ i, i < n → c[i]? = some (f i)) : (w.alloc (.cells c t)).rowIs b t n f := by
  subst hb; subst hn; exact World.rowIs_alloc w c t f hc
theorem rowIs_zero {w : World} {c : Array Value} {t : TypeId} {b n : Nat} (z : Value) (hb : b = w.heap.size) (hc : c = Array.replicate n z) : (w.alloc (.cells c t)).rowIs b t n (fun _ => z) := by
  subst hc
  exact rowIs_of hb (by simp) (fun i hi => by simp [hi])
theorem rowIs_list {w : World} {l : List Value} {t : TypeId} {b n : Nat} {f : Nat → Value} (hb : b = w.heap.size) (hn : l.length = n) (hc : ∀ i, i < n → l[i]? = some (f i)) : (w.alloc (.cells l.toArray t)).rowIs b t n f :=
  rowIs_of hb (by simpa using hn) (fun i hi => by simpa using hc i hi)
theorem rowIs_below {w w' : World} {B b : Nat} {t : TypeId} {n : Nat} {f : Nat → Value} (h : w.rowIs b t n f) (hb : Below B w w') (hB : b < B) : w'.rowIs b t n f := h.of_block (hb.block b hB)
theorem rowIs_grow {w d : World} {b : Nat} {t : TypeId} {n : Nat} {f : Nat → Value} (h : w.rowIs b t n f) : (Grow w d).rowIs b t n f := h.of_block ((grow_below w d).block b h.lt)
theorem rowIs_cellB {w w' : World} {b : Nat} {t : TypeId} {n : Nat} {f : Nat → Value} (h : w.rowIs b t n f) (hb : Below w.heap.size w w') {i : Nat} (hi : i < n) : w'.cell? ⟨b, i, none⟩ = some (f i) := (rowIs_below h hb h.lt).cell hi

theorem Below.drewN {B : Nat} {a w : World} (h : Below B a w) (n : Nat) : Below B a (w.drewN n) := ⟨h.os, h.tape, h.output, h.size, h.block⟩
theorem rowIs_two {w : World} {b : Nat} {t : TypeId} {f g : Nat → Value} {v0 v1 : Value} (h : w.rowIs b t 2 f) (h0 : g 0 = v0) (h1 : g 1 = v1) : ((w.setCell ⟨b, 0, none⟩ v0).setCell ⟨b, 1, none⟩ v1).rowIs b t 2 g := by
  subst h0; subst h1
  refine ((h.set 0 _).set 1 _).congr (fun i hi => ?_)
  rcases (by omega : i = 0 ∨ i = 1) with rfl | rfl <;> rfl
/-- a known cell is kept where memory is only made -/
theorem keepc {W w1 : World} (hb : Below W.heap.size W w1) {p : Addr} {v : Value} (h : W.cell? p = some v) : w1.cell? p = some v := by
  rw [hb.cell (World.block_lt_of_cell? W p h)]; exact h

theorem keeps {W : World} {p q : Addr} {v u : Value} (hp : p.block ≠ q.block) (h : W.cell? p = some v) : (W.setCell q u).cell? p = some v := by
  rw [World.cell?_setCell_other W q p u (fun e => hp (by rw [e]))]; exact h

theorem keepa {W : World} {p : Addr} {v : Value} {o o' : Obj} (hp : p.block < W.heap.size) (h : (W.alloc o).cell? p = some v) : (W.alloc o').cell? p = some v := by
  rw [World.cell?_alloc_lt W o p hp] at h
  rw [World.cell?_alloc_lt W o' p hp]; exact h

/-- a word of 64 bits -/
def Wd (x : Int) : Prop := 0 ≤ x ∧ x < 18446744073709551616
/-- a list of bytes' values -/
def bV (l : List UInt8) (i : Nat) : Value := .int .u8 ((l.getD i 0).toNat : Int)
/-- integers' values -/
def iV (d : Nat → Int) (j : Nat) : Value := .int .i64 (d j)
theorem fcongr {f g : Nat → Value} (n : Nat) {w : World} {b : Nat} {t : TypeId} (h : w.rowIs b t n f) (e : ∀ i, i < n → f i = g i) : w.rowIs b t n g := h.congr e
end Go.Proofs.Ytbmdnifkjcimcaa
-- Slice
namespace Go.Proofs.Ytbmdnifkjcimcaa
set_option linter.unusedVariables false
set_option linter.unusedSimpArgs false
open Go.RowKit

/-- the m cells behind the address A are those of f; A may be nil where m is 0 -/
def SlIs (w : World) (A : Option Addr) (m : Nat) (f : Nat → Value) : Prop :=
  0 < m → ∃ b o, A = some ⟨b, o, none⟩ ∧ b < w.heap.size ∧ ∀ j, j < m → w.cell? ⟨b, o + j, none⟩ = some (f j)
theorem SlIs.below {w w' : World} {A : Option Addr} {m : Nat} {f : Nat → Value} (h : SlIs w A m f) (hb : Below w.heap.size w w') : SlIs w' A m f := fun hm => by
  obtain ⟨b, o, e, hl, hc⟩ := h hm
  exact ⟨b, o, e, Nat.lt_of_lt_of_le hl hb.size, fun j hj => keepc hb (hc j hj)⟩
theorem SlIs.nil {w : World} {A : Option Addr} {f : Nat → Value} : SlIs w A 0 f := fun h => absurd h (by omega)
theorem SlIs.row {w : World} {b : Nat} {t : TypeId} {n m : Nat} {f : Nat → Value} (h : w.rowIs b t n f) (hm : m ≤ n) : SlIs w (some ⟨b, 0, none⟩) m f := fun _ =>
  ⟨b, 0, rfl, h.lt, fun j hj => by rw [Nat.zero_add]; exact h.cell (by omega)⟩
theorem SlIs.congr {w : World} {A : Option Addr} {m : Nat} {f g : Nat → Value} (h : SlIs w A m f) (e : ∀ i, i < m → f i = g i) : SlIs w A m g := fun hm => by
  obtain ⟨b, o, e1, hl, hc⟩ := h hm
  exact ⟨b, o, e1, hl, fun j hj => by rw [hc j hj, e j hj]⟩
end Go.Proofs.Ytbmdnifkjcimcaa
-- Blk
namespace Go.Proofs.Ytbmdnifkjcimcaa
set_option linter.unusedVariables false
set_option linter.unusedSimpArgs false
open Go.RowKit

/-- block g is just the cells cs of type t, none frozen -/
def Blk (w : World) (g : Nat) (t : TypeId) (cs : Array Value) : Prop := w.heap[g]? = some (.cells cs t (0, 0))
section
variable {w w' : World} {g : Nat} {t : TypeId} {cs : Array Value}
theorem Blk.lt (h : Blk w g t cs) : g < w.heap.size := by
  rcases Nat.lt_or_ge g w.heap.size with hlt | hge
  · exact hlt
  · unfold Blk at h; rw [Array.getElem?_eq_none hge] at h; cases h
theorem Blk.cell (h : Blk w g t cs) (i : Nat) : w.cell? ⟨g, i, none⟩ = cs[i]? := cell_of_row w g i cs t (0, 0) h
theorem Blk.frozen (h : Blk w g t cs) (i : Nat) : w.frozen? ⟨g, i, none⟩ = false := by
  unfold Blk at h
  simp [World.frozen?, h]
theorem Blk.new (w : World) (t : TypeId) (cs : Array Value) : Blk (w.alloc (.cells cs t)) w.heap.size t cs := heap_alloc_new w _
theorem Blk.new' {w : World} {g : Nat} {t : TypeId} {cs : Array Value} (hg : g = w.heap.size) : Blk (w.alloc (.cells cs t)) g t cs := by subst hg; exact Blk.new w t cs
theorem Blk.drew (h : Blk w g t cs) : Blk w.drew g t cs := h
theorem Blk.drewN (h : Blk w g t cs) (n : Nat) : Blk (w.drewN n) g t cs := h
theorem Blk.alloc (h : Blk w g t cs) (o : Obj) : Blk (w.alloc o) g t cs := (Below.heap_alloc w o g h.lt).trans h
theorem Blk.set_ (h : Blk w g t cs) (i : Nat) (u : Value) : Blk (w.setCell ⟨g, i, none⟩ u) g t (cs.setIfInBounds i u) := by
  unfold Blk at h ⊢
  simp [World.setCell, Array.getElem?_modify, h]
theorem Blk.set' {cs' : Array Value} (h : Blk w g t cs) (i : Nat) (u : Value) (e : cs.setIfInBounds i u = cs') : Blk (w.setCell ⟨g, i, none⟩ u) g t cs' := e ▸ h.set_ i u
theorem Blk.far (h : Blk w g t cs) {p : Addr} (hp : g ≠ p.block) (u : Value) : Blk (w.setCell p u) g t cs := (Below.heap_setCell w p u g hp).trans h
theorem Blk.two {a b u v : Value} (h : Blk w g t #[a, b]) : Blk ((w.setCell ⟨g, 0, none⟩ u).setCell ⟨g, 1, none⟩ v) g t #[u, v] := (h.set_ 0 u).set_ 1 v
theorem Blk.below {B : Nat} (h : Blk w g t cs) (hb : Below B w w') (hg : g < B) : Blk w' g t cs := (hb.block g hg).trans h
theorem Blk.kept (h : Blk w g t cs) (hb : Below w.heap.size w w') : Blk w' g t cs := h.below hb h.lt
theorem Blk.grow (h : Blk w g t cs) (d : World) : Blk (Grow w d) g t cs := h.kept (grow_below w d)
theorem Blk.grown {row : Option Nat} (h : Blk w g t cs) (hb : w.grownBy w' row) (hg : some g ≠ row) : Blk w' g t cs := (hb.block g h.lt hg).trans h
end

/-- the world behind a piece of code under a name of its own, with what is known of it -/
theorem abs_exit {K : Act → World → Prop} {Q : Exit → Act → World → Prop} {e : Exit} {a : Act} {W : World} (I : World → Prop) (hI : I W) (h : ∀ X, I X → Exit.then K Q e a X) : Exit.then K Q e a W := h W hI
theorem abs_wp {P : Program} {c : Code} {Q : Exit → Act → World → Prop} {a : Act} {W : World} (I : World → Prop) (hI : I W) (h : ∀ X, I X → c.wp P Q a X) : c.wp P Q a W := h W hI

/-- Below, from any elder world on -/
theorem bel_eld {w X Y : World} (h : Below w.heap.size w X) (k : Below X.heap.size X Y) : Below w.heap.size w Y := h.trans (k.mono h.size)
end Go.Proofs.Ytbmdnifkjcimcaa
