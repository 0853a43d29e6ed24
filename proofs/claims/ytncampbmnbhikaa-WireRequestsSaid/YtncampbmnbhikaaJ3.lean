/-
  Joined: Blk Append Str.
-/
import Derived.Test.YtncampbmnbhikaaJ2
import Derived.Laws.BytesArg
-- Blk
namespace Go.Proofs.Ytncampbmnbhikaa
set_option linter.unusedVariables false
set_option linter.unusedSimpArgs false
open Go.RowKit

/-- block g is just the cells cs of type t, none frozen -/
def Blk (w : World) (g : Nat) (t : TypeId) (cs : Array Value) : Prop := w.heap[g]? = some (.cells cs t (0, 0))
section
variable {w w' : World} {g : Nat} {t : TypeId} {cs : Array Value}
theorem Blk.lt (h : Blk w g t cs) : g < w.heap.size := by
  rcases Nat.lt_or_ge g w.heap.size with hlt | hge
  · exact hlt
  · unfold Blk at h; rw [Array.getElem?_eq_none hge] at h; cases h
theorem Blk.cell (h : Blk w g t cs) (i : Nat) : w.cell? ⟨g, i, none⟩ = cs[i]? := cell_of_row w g i cs t (0, 0) h
theorem Blk.frozen (h : Blk w g t cs) (i : Nat) : w.frozen? ⟨g, i, none⟩ = false := by
  unfold Blk at h
  simp [World.frozen?, h]
theorem Blk.new (w : World) (t : TypeId) (cs : Array Value) : Blk (w.alloc (.cells cs t)) w.heap.size t cs := heap_alloc_new w _
theorem Blk.new' {w : World} {g : Nat} {t : TypeId} {cs : Array Value} (hg : g = w.heap.size) : Blk (w.alloc (.cells cs t)) g t cs := by subst hg; exact Blk.new w t cs
theorem Blk.drew (h : Blk w g t cs) : Blk w.drew g t cs := h
theorem Blk.drewN (h : Blk w g t cs) (n : Nat) : Blk (w.drewN n) g t cs := h
theorem Blk.alloc (h : Blk w g t cs) (o : Obj) : Blk (w.alloc o) g t cs := (Below.heap_alloc w o g h.lt).trans h
theorem Blk.set_ (h : Blk w g t cs) (i : Nat) (u : Value) : Blk (w.setCell ⟨g, i, none⟩ u) g t (cs.setIfInBounds i u) := by
  unfold Blk at h ⊢
  simp [World.setCell, Array.getElem?_modify, h]
theorem Blk.set' {cs' : Array Value} (h : Blk w g t cs) (i : Nat) (u : Value) (e : cs.setIfInBounds i u = cs') : Blk (w.setCell ⟨g, i, none⟩ u) g t cs' := e ▸ h.set_ i u
theorem Blk.far (h : Blk w g t cs) {p : Addr} (hp : g ≠ p.block) (u : Value) : Blk (w.setCell p u) g t cs := (Below.heap_setCell w p u g hp).trans h
theorem Blk.two {a b u v : Value} (h : Blk w g t #[a, b]) : Blk ((w.setCell ⟨g, 0, none⟩ u).setCell ⟨g, 1, none⟩ v) g t #[u, v] := (h.set_ 0 u).set_ 1 v
theorem Blk.below {B : Nat} (h : Blk w g t cs) (hb : Below B w w') (hg : g < B) : Blk w' g t cs := (hb.block g hg).trans h
theorem Blk.kept (h : Blk w g t cs) (hb : Below w.heap.size w w') : Blk w' g t cs := h.below hb h.lt
theorem Blk.grow (h : Blk w g t cs) (d : World) : Blk (Grow w d) g t cs := h.kept (grow_below w d)
theorem Blk.grown {row : Option Nat} (h : Blk w g t cs) (hb : w.grownBy w' row) (hg : some g ≠ row) : Blk w' g t cs := (hb.block g h.lt hg).trans h
end

/-- the world behind a piece of code under a name of its own, with what is known of it -/
theorem abs_exit {K : Act → World → Prop} {Q : Exit → Act → World → Prop} {e : Exit} {a : Act} {W : World} (I : World → Prop) (hI : I W) (h : ∀ X, I X → Exit.then K Q e a X) : Exit.then K Q e a W := h W hI
theorem abs_wp {P : Program} {c : Code} {Q : Exit → Act → World → Prop} {a : Act} {W : World} (I : World → Prop) (hI : I W) (h : ∀ X, I X → c.wp P Q a X) : c.wp P Q a W := h W hI

/-- Below, from any elder world on -/
theorem bel_eld {w X Y : World} (h : Below w.heap.size w X) (k : Below X.heap.size X Y) : Below w.heap.size w Y := h.trans (k.mono h.size)
end Go.Proofs.Ytncampbmnbhikaa
-- Append
namespace Go.Proofs.Ytncampbmnbhikaa
set_option linter.unusedVariables false
set_option linter.unusedSimpArgs false
open Go.RowKit

theorem own_slis {w : World} {base : Nat} {e : TypeId} {size : Nat} {v : Value} {n : Nat} {xs : List Value} {f : Nat → Value} (h : w.ownsRow base e size v n xs) (hf : ∀ j u, xs[j]? = some u → u = f j) :
    ∃ A c, v = .slice A n c ∧ SlIs w A (n * size) f := by
  obtain ⟨hl, h2⟩ := h
  rcases h2 with ⟨rfl, rfl⟩ | ⟨g, cap, cur, rfl, hb, hh, h3, h4, h5, h6⟩
  · exact ⟨none, 0, rfl, fun hm => by simp at hm⟩
  · refine ⟨_, _, rfl, fun hm => ⟨g, 0, rfl, ?_, fun j hj => ?_⟩⟩
    · obtain ⟨hlt, _⟩ := Array.getElem?_eq_some_iff.1 hh
      exact hlt
    · have hx : xs[j]? = some (xs[j]'(by omega)) := List.getElem?_eq_getElem (by omega)
      rw [Nat.zero_add, cell_of_row w g j cur e (0, 0) hh, ← hf j _ hx, ← hx, ← h6, ← Array.getElem?_toList, List.getElem?_take, if_pos hj]
theorem news_blk {w : World} {g : Nat} {t : TypeId} {l : List Value} (h : Blk w g t l.toArray) : ∀ j u, l[j]? = some u → w.cell? ((⟨g, 0, none⟩ : Addr).add j) = some u := by
  intro j u hu
  have e : (⟨g, 0, none⟩ : Addr).add j = ⟨g, j, none⟩ := by unfold Addr.add; split <;> simp_all
  rw [e, h.cell j]
  simpa using hu
theorem bel_grown {w X Y : World} {row : Option Nat} (h : Below w.heap.size w X) (hg : X.grownBy Y row) (hr : ∀ k, row = some k → w.heap.size ≤ k) : Below w.heap.size w Y := h.grown hg h.size hr
end Go.Proofs.Ytncampbmnbhikaa
-- Str
namespace Go.Proofs.Ytncampbmnbhikaa
set_option linter.unusedVariables false
set_option linter.unusedSimpArgs false
open Go.RowKit

/-- bytes' values -/
def yV (d : Nat → Int) (j : Nat) : Value := .int .u8 (d j)
/-- the text of n bytes -/
def strF (d : Nat → Int) (n : Nat) : ByteArray := strOfNums ((List.range n).map d)
/-- the bytes of a text -/
def sB (s : ByteArray) (i : Nat) : Int := ((s.data.toList.getD i 0).toNat : Int)
theorem sB_lo (s : ByteArray) (i : Nat) : 0 ≤ sB s i ∧ sB s i < 256 := by unfold sB; have := (s.data.toList.getD i 0).toNat_lt; omega
theorem strF_size (d : Nat → Int) (n : Nat) : (strF d n).size = n := by unfold strF; rw [strOfNums_size]; simp
theorem strF_list (d : Nat → Int) (n : Nat) : (strF d n).data.toList = (List.range n).map (fun i => UInt8.ofNat (d i).toNat) := by unfold strF; rw [strOfNums_data]; simp
theorem strF_congr {d e : Nat → Int} {n : Nat} (h : ∀ i, i < n → d i = e i) : strF d n = strF e n := by
  unfold strF
  rw [List.map_congr_left (fun i hi => h i (by simpa using hi))]
theorem sB_strF {d : Nat → Int} {n j : Nat} (hj : j < n) (hd : 0 ≤ d j ∧ d j < 256) : sB (strF d n) j = d j := by
  unfold sB
  rw [strF_list]
  simp [List.getD, hj]
  omega
theorem strF_sB (s : ByteArray) : strF (sB s) s.size = s := by
  have h : (strF (sB s) s.size).data.toList = s.data.toList := by
    rw [strF_list]
    apply List.ext_getElem?
    intro i
    by_cases hi : i < s.size
    · have hi' : i < s.data.toList.length := by simpa using hi
      rw [List.getElem?_eq_getElem hi', List.getElem?_map, List.getElem?_range hi]
      simp only [Option.map_some]
      congr 1
      unfold sB
      simp [List.getD, List.getElem?_eq_getElem hi']
    · rw [List.getElem?_eq_none (by simpa using hi), List.getElem?_eq_none (by simpa using hi)]
  cases hs : strF (sB s) s.size with
  | mk a =>
    rw [hs] at h
    cases s with
    | mk b => congr 1; exact Array.toList_inj.1 h
theorem strF_inj {d e : Nat → Int} {n m : Nat} (hd : ∀ i, i < n → 0 ≤ d i ∧ d i < 256) (he : ∀ i, i < m → 0 ≤ e i ∧ e i < 256) : strF d n = strF e m ↔ n = m ∧ ∀ i, i < n → d i = e i := by
  constructor
  · intro h
    have h1 : n = m := by rw [← strF_size d n, ← strF_size e m, h]
    subst h1
    exact ⟨rfl, fun i hi => by rw [← sB_strF hi (hd i hi), h, sB_strF hi (he i hi)]⟩
  · rintro ⟨rfl, h⟩; exact strF_congr h
theorem sB_at (s : ByteArray) {k : Nat} (hk : k < s.size) : wrap64 ((s[k].toNat : Int)) = sB s k := by
  have h := s[k].toNat_lt
  have e : sB s k = (s[k].toNat : Int) := by
    unfold sB
    have hk' : k < s.data.toList.length := by simpa using hk
    simp [List.getD, List.getElem?_eq_getElem hk']
    rfl
  rw [e]
  unfold wrap64
  omega

section
variable {P : Program} {w : World}
/-- a slice of bytes made a text -/
theorem conv_str {src e dst : TypeId} (hs : P.underlying src = some (.slice e)) (he : P.underlying e = some (.int .u8)) (hd : P.underlying dst = some .string) {A : Option Addr} {n : Nat} {d : Nat → Int} (h : SlIs w A n (yV d)) (c : Nat) :
    (convert src dst (.slice A n c)).run P w = .ok (.string (strF d n)) w := by
  rcases Nat.eq_zero_or_pos n with h0 | h0
  · subst h0
    cases A with
    | none => rw [run_convert_bytes_nil w src e hs he 0 c dst hd]; rfl
    | some a =>
      rw [run_convert_bytes_string w src dst e _ 0 c hs he hd, run_bytesToString w a 0 c [] (run_loadCells_list (P := P) w a [] (fun j v hj => by simp at hj))]
      rfl
  · obtain ⟨b, o, rfl, _, hc⟩ := h h0
    rw [run_convert_bytes_arg w src e hs he b o n c ((List.range n).map d) (by simp) (fun i hi => by rw [hc i hi]; simp [List.getD, hi, yV]) dst hd]
    rfl
end
end Go.Proofs.Ytncampbmnbhikaa
