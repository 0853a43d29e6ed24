/-
  The heads' methods, walked: Len, Less, Swap.
-/
import Derived.Test.YtecaegjonhimmaaMgA
import Derived.Test.YtecaegjonhimmaaWpg
import Derived.Laws.EntriesVeiled
import Derived.WideLaws
import Derived.Deep.DeepCutAuto
namespace Go.Proofs.Ytecaegjonhimmaa
set_option linter.unusedVariables false
set_option linter.unusedSimpArgs false
open Go.RowKit

/-- what the heads' sources hold: the item that each has handed over last, and the sources themselves -/
structure Hs where
  it : Nat → Nat → Int
  gs : Nat → FuncId
  lb : Nat → Array Value
  src : Value
/-- a source, as a value -/
def Hs.fv (H : Hs) (s : Nat) : Value := .func (.func (H.gs s)) #[] (H.lb s)
/-- the cells of the head of source s -/
def hcl (H : Hs) (s : Nat) : List Value := [.int .u64 (H.it s 0), .int .u64 (H.it s 1), .int .u64 (H.it s 2), .int .u8 (H.it s 3), .int .i64 s, H.fv s]
theorem hcl_len (H : Hs) (s : Nat) : (hcl H s).length = 6 := rfl
/-- source s comes ahead of source t -/
def lessB (dn : Bool) (H : Hs) (s t : Nat) : Bool := if H.it s 0 = H.it t 0 then decide (s < t) else (decide (H.it s 0 < H.it t 0) != dn)
/-- the row of the heads: at block g, cap places; those below n are the sources' of pl -/
structure HpIs (w : World) (g cap n : Nat) (H : Hs) (pl : Nat → Nat) (F : Nat → List Value) : Prop where
  blk : Blk w g 60 (rowC cap F).toArray
  len : ∀ i, (F i).length = 6
  le : n ≤ cap
  max : cap ≤ maxLen
  at_ : ∀ i, i < n → F i = hcl H (pl i)
section
variable {w w' : World} {g cap n : Nat} {H : Hs} {pl : Nat → Nat} {F : Nat → List Value}
theorem HpIs.cell (h : HpIs w g cap n H pl F) {i m : Nat} (hi : i < n) (hm : m < 6) : w.cell? ⟨g, i * 6 + m, none⟩ = (hcl H (pl i))[m]? := by
  rw [h.blk.cell]
  rw [← h.at_ i hi]
  have := rowC_at h.len hm (Nat.lt_of_lt_of_le hi h.le)
  simpa using this
theorem HpIs.kept (h : HpIs w g cap n H pl F) (hb : Below w.heap.size w w') : HpIs w' g cap n H pl F := ⟨h.blk.kept hb, h.len, h.le, h.max, h.at_⟩
theorem HpIs.tch {S : Nat → Prop} (h : HpIs w g cap n H pl F) (hb : Tch S w w') (hs : ¬ S g) : HpIs w' g cap n H pl F := ⟨h.blk.tch hb hs, h.len, h.le, h.max, h.at_⟩
end

theorem len_any (A : Option Addr) (n c : Nat) (b : Bool) (w : World) :
    Calls Try.prog 43 #[.agg #[.slice A n c, .bool b]] w fun r w' => r = .returned (.int .i64 n) ∧ Below w.heap.size w w' := by
  go_enter Try.func43, Try.ntmps43
  go_wp2_with fail
  go_ret
  exact ⟨rfl, by (repeat (first | exact Below.refl _ _ | assumption | refine below_drewN ?_ _ | refine bel_grow ?_ _ | refine Below.drew ?_ | refine bel_alloc ?_ _ | refine bel_set ?_ (by first | exact Nat.le_refl _ | (simp; done) | (simp; omega) | omega) _ | refine bel_trans ?_ (by assumption)))⟩
set_option maxHeartbeats 4000000 in
theorem less_any (g cap n : Nat) (dn : Bool) (H : Hs) (pl : Nat → Nat) (F : Nat → List Value) (i j : Nat) (hi : i < n) (hj : j < n) (w : World) (h : HpIs w g cap n H pl F) :
    Calls Try.prog 44 #[.agg #[.slice (some ⟨g, 0, none⟩) n cap, .bool dn], .int .i64 i, .int .i64 j] w fun r w' => r = .returned (.bool (lessB dn H (pl i) (pl j))) ∧ Below w.heap.size w w' := by
  have hl := h.blk.lt
  have hl1 : g < w.heap.size + 1 := by omega
  have hl2 : g < w.heap.size + 1 + 1 := by omega
  have hl3 : g < w.heap.size + 1 + 1 + 1 := by omega
  have a0 : w.cell? ⟨g, i * 6, none⟩ = some (.int .u64 (H.it (pl i) 0)) := h.cell hi (m := 0) (by omega)
  have a1 : w.cell? ⟨g, i * 6 + 1, none⟩ = some (.int .u64 (H.it (pl i) 1)) := h.cell hi (m := 1) (by omega)
  have a2 : w.cell? ⟨g, i * 6 + 2, none⟩ = some (.int .u64 (H.it (pl i) 2)) := h.cell hi (m := 2) (by omega)
  have a3 : w.cell? ⟨g, i * 6 + 3, none⟩ = some (.int .u8 (H.it (pl i) 3)) := h.cell hi (m := 3) (by omega)
  have a4 : w.cell? ⟨g, i * 6 + 4, none⟩ = some (.int .i64 (pl i)) := h.cell hi (m := 4) (by omega)
  have a5 : w.cell? ⟨g, i * 6 + 5, none⟩ = some (.func (.func (H.gs (pl i))) #[] (H.lb (pl i))) := h.cell hi (m := 5) (by omega)
  have b0 : w.cell? ⟨g, j * 6, none⟩ = some (.int .u64 (H.it (pl j) 0)) := h.cell hj (m := 0) (by omega)
  have b1 : w.cell? ⟨g, j * 6 + 1, none⟩ = some (.int .u64 (H.it (pl j) 1)) := h.cell hj (m := 1) (by omega)
  have b2 : w.cell? ⟨g, j * 6 + 2, none⟩ = some (.int .u64 (H.it (pl j) 2)) := h.cell hj (m := 2) (by omega)
  have b3 : w.cell? ⟨g, j * 6 + 3, none⟩ = some (.int .u8 (H.it (pl j) 3)) := h.cell hj (m := 3) (by omega)
  have b4 : w.cell? ⟨g, j * 6 + 4, none⟩ = some (.int .i64 (pl j)) := h.cell hj (m := 4) (by omega)
  have b5 : w.cell? ⟨g, j * 6 + 5, none⟩ = some (.func (.func (H.gs (pl j))) #[] (H.lb (pl j))) := h.cell hj (m := 5) (by omega)
  clear h
  have hres : Hid (lessB dn H (pl i) (pl j) = if H.it (pl i) 0 = H.it (pl j) 0 then decide (pl i < pl j) else (decide (H.it (pl i) 0 < H.it (pl j) 0) != dn)) := Lib.hid rfl
  generalize lessB dn H (pl i) (pl j) = res at *
  generalize H.it (pl i) 0 = x0 at *
  generalize H.it (pl i) 1 = x1 at *
  generalize H.it (pl i) 2 = x2 at *
  generalize H.it (pl i) 3 = x3 at *
  generalize H.gs (pl i) = x5 at *
  generalize H.lb (pl i) = x6 at *
  generalize H.it (pl j) 0 = y0 at *
  generalize H.it (pl j) 1 = y1 at *
  generalize H.it (pl j) 2 = y2 at *
  generalize H.it (pl j) 3 = y3 at *
  generalize H.gs (pl j) = y5 at *
  generalize H.lb (pl j) = y6 at *
  generalize pl i = s at *
  generalize pl j = t at *
  go_enter Try.func44, Try.ntmps44
  go_wp2_with fail
  go_region
  all_goals (
    by_cases hxy : x0 = y0
    · have k1 : (x0 == y0) = true := by simp [hxy]
      subst hxy
      go_wp2_with fail
      go_ret
      exact ⟨by rw [hres.out]; simp, by (repeat (first | exact Below.refl _ _ | assumption | refine below_drewN ?_ _ | refine bel_grow ?_ _ | refine Below.drew ?_ | refine bel_alloc ?_ _ | refine bel_set ?_ (by first | exact Nat.le_refl _ | (simp; done) | (simp; omega) | omega) _ | refine bel_trans ?_ (by assumption)))⟩
    · have k1 : (x0 == y0) = false := by simp [hxy]
      go_wp2_with fail
      go_ret
      exact ⟨by rw [hres.out, if_neg hxy]; rfl, by (repeat (first | exact Below.refl _ _ | assumption | refine below_drewN ?_ _ | refine bel_grow ?_ _ | refine Below.drew ?_ | refine bel_alloc ?_ _ | refine bel_set ?_ (by first | exact Nat.le_refl _ | (simp; done) | (simp; omega) | omega) _ | refine bel_trans ?_ (by assumption)))⟩)
theorem load_Hd (ρ : Operand → Value) (dst : Option Tmp) (x : Operand) (t : TypeId) (pos : String) (after : Array Edge) (guard : Option (Nat × Bool)) (w : World) :
    (execOp ρ { dst, op := Op.load 60 x, type := t, pos, after, guard }).run Try.prog w = (loadV Try.prog 60 6 w (ρ x)).andThen fun v w' => .ok (.value v) w' :=
  exec_load_row Try.underlying60 rfl (by kernel_rfl) ρ dst x t pos after guard w
theorem store_Hd (ρ : Operand → Value) (dst : Option Tmp) (p x : Operand) (t : TypeId) (pos : String) (after : Array Edge) (guard : Option (Nat × Bool)) (w : World) :
    (execOp ρ { dst, op := Op.store 60 p x, type := t, pos, after, guard }).run Try.prog w = (storeV Try.prog 60 6 w (ρ p) (ρ x)).andThen fun _ w' => .ok .skip w' :=
  exec_store_row (by kernel_rfl) ρ dst p x t pos after guard w
theorem hcl_one (H : Hs) (s : Nat) : ∀ u ∈ hcl H s, u.oneCell' = true := fun u hu => List.all_eq_true.1 (show (hcl H s).all Value.oneCell' = true from rfl) u hu
/-- places changed for one another -/
def swp (pl : Nat → Nat) (i j : Nat) : Nat → Nat := fun m => if m = j then pl i else if m = i then pl j else pl m
section
attribute [local go_sem ↓] load_Hd store_Hd
set_option maxHeartbeats 4000000 in
theorem swap_any (g cap n : Nat) (dn : Bool) (H : Hs) (pl : Nat → Nat) (F : Nat → List Value) (i j : Nat) (hi : i < n) (hj : j < n) (w : World) (h : HpIs w g cap n H pl F) :
    Calls Try.prog 45 #[.agg #[.slice (some ⟨g, 0, none⟩) n cap, .bool dn], .int .i64 i, .int .i64 j] w fun r w' => r = .returned (.tuple #[]) ∧ (∃ F', HpIs w' g cap n H (swp pl i j) F') ∧ Tch (fun k => k = g) w w' := by
  have hl := h.blk.lt
  have hic := Nat.lt_of_lt_of_le hi h.le
  have hjc := Nat.lt_of_lt_of_le hj h.le
  replace h := Lib.hid h
  go_enter Try.func45, Try.ntmps45
  go_upto_region 1 with fail
  refine abs_wp (fun X => Below w.heap.size w X ∧ Blk X w.heap.size 55 #[.slice (some ⟨g, 0, none⟩) n cap, .bool dn]) ⟨bel_alloc (Below.refl _ _) _, Blk.new _ _ _⟩ ?_
  rintro X ⟨hbX, hB⟩
  have hX := h.out.kept hbX
  have hlX := hX.blk.lt
  have l1 := load_at (P := Try.prog) (ty := 60) (w := X.drew) hX.blk hX.len hic
  have l2 := load_at (P := Try.prog) (ty := 60) (w := X.drew) hX.blk hX.len hjc
  have o1 : ∀ u ∈ F i, u.oneCell' = true := by rw [hX.at_ i hi]; exact hcl_one _ _
  have o2 : ∀ u ∈ F j, u.oneCell' = true := by rw [hX.at_ j hj]; exact hcl_one _ _
  have s1 := store_at (P := Try.prog) (ty := 60) (w := X.drew) hX.blk hX.len hic (hX.len j) o2
  have b1 : Blk (X.drew.setRow g (rowC cap (updL F i (F j))).toArray) g 60 (rowC cap (updL F i (F j))).toArray := Blk.setRow hX.blk rfl
  have t1 : Tch (fun k => k = g) w (X.drew.setRow g (rowC cap (updL F i (F j))).toArray) := ((tch_of hbX (fun k => k = g)).drew).setRow (g := g) (fun _ => rfl) _
  have c1 : (X.drew.setRow g (rowC cap (updL F i (F j))).toArray).cell? ⟨w.heap.size, 0, none⟩ = some (.slice (some ⟨g, 0, none⟩) n cap) := (Blk.setRow_far hB (by omega) _).cell 0
  have u1 := updL_len (i := i) hX.len (hX.len j)
  generalize X.drew.setRow g (rowC cap (updL F i (F j))).toArray = X1 at *
  have s2 := store_at (P := Try.prog) (ty := 60) (w := X1) b1 u1 hjc (hX.len i) o1
  have b2 : Blk (X1.setRow g (rowC cap (updL (updL F i (F j)) j (F i))).toArray) g 60 (rowC cap (updL (updL F i (F j)) j (F i))).toArray := Blk.setRow b1 rfl
  have t2 : Tch (fun k => k = g) w (X1.setRow g (rowC cap (updL (updL F i (F j)) j (F i))).toArray) := t1.setRow (g := g) (fun _ => rfl) _
  generalize X1.setRow g (rowC cap (updL (updL F i (F j)) j (F i))).toArray = X2 at *
  have hfin : HpIs X2 g cap n H (swp pl i j) (updL (updL F i (F j)) j (F i)) := ⟨b2, updL_len u1 (hX.len i), hX.le, hX.max, fun m hm => by
    unfold updL swp
    by_cases e1 : m = j
    · rw [if_pos e1, if_pos e1]; exact hX.at_ i hi
    · rw [if_neg e1, if_neg e1]
      by_cases e2 : m = i
      · rw [if_pos e2, if_pos e2]; exact hX.at_ j hj
      · rw [if_neg e2, if_neg e2]; exact hX.at_ m hm⟩
  have d0 := hB.cell 0
  replace hfin := Lib.hid hfin
  replace t2 := Lib.hid t2
  clear b1 b2 t1 u1 o1 o2 hX h
  generalize (F i).toArray = vi at *
  generalize (F j).toArray = vj at *
  go_region
  go_end0
  exact ⟨rfl, ⟨_, hfin.out⟩, t2.out⟩
end
end Go.Proofs.Ytecaegjonhimmaa
