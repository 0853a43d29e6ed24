/-
  node.Read, walked.
-/
import Derived.Test.YtbmdnifkjcimcaaNu
import Derived.BigQuiet
namespace Go.Proofs.Ytbmdnifkjcimcaa
set_option linter.unusedVariables false
set_option linter.unusedSimpArgs false
open Go.RowKit

def ndL (k v : Nat) (y : Nat → Int) (n : Nat) : Nd := ⟨true, n, fun _ => k, fun i => shf y (2 + i * (k + v)), n, fun _ => v, fun i => shf y (2 + (i * (k + v) + k)), 0, fun _ => 0⟩
def ndI (k : Nat) (y : Nat → Int) (n : Nat) : Nd := ⟨false, n, fun _ => k, fun i => shf y (2 + (4 + n * 4 + i * k)), 0, fun _ => 0, fun _ _ => 0, n + 1, fun i => num (shf y 2) (i * 4) 4⟩
theorem cap_nat {k v : Int} (h : capOk k v) : ∃ a b : Nat, k = a ∧ v = b ∧ 1 ≤ a ∧ a ≤ 24 ∧ b ≤ 108 := by
  unfold capOk at h
  exact ⟨k.toNat, v.toNat, by omega, by omega, by omega, by omega, by omega⟩
theorem abs_post {P : Program} {f : Func} {Φ : Ending → World → Prop} {e : Exit} {a : Act} {W : World} (I : World → Prop) (hI : I W) (h : ∀ X, I X → bodyPost P f Φ e a X) : bodyPost P f Φ e a W := h W hI
theorem Blk.four {w : World} {g : Nat} {t : TypeId} {a b c d : Value} (h : Blk w g t #[a, b, c, d]) (x0 x1 x2 x3 : Value) : Blk ((((w.setCell ⟨g, 0, none⟩ x0).setCell ⟨g, 1, none⟩ x1).setCell ⟨g, 2, none⟩ x2).setCell ⟨g, 3, none⟩ x3) g t #[x0, x1, x2, x3] := (((h.set_ 0 x0).set_ 1 x1).set_ 2 x2).set_ 3 x3
theorem capL_pos {k v : Nat} (hk : 1 ≤ k ∧ k ≤ 24) (hv : v ≤ 108) : capL (k : Int) (v : Int) ≠ 0 := by
  have h : capOk (k : Int) (v : Int) := by unfold capOk; omega
  rw [(cap_yes h).1]
  have hp : (0 : Int) < (k : Int) + v := by omega
  have h1 : (1 : Int) ≤ 498 / ((k : Int) + v) := by rw [Int.le_ediv_iff_mul_le hp]; omega
  omega
theorem SlIs.from2 {w : World} {b o l : Nat} {y : Nat → Int} (h : SlIs w (some ⟨b, o, none⟩) l (yV y)) : SlIs w (some ⟨b, o + 2, none⟩) (l - 2) (yV (shf y 2)) := fun hm => by
  obtain ⟨b', o', e', hl, hc⟩ := h (by omega)
  cases e'
  exact ⟨b, o + 2, rfl, hl, fun j hj => by rw [Nat.add_assoc]; exact hc (2 + j) (by omega)⟩

set_option maxRecDepth 8000 in
set_option maxHeartbeats 4000000 in
theorem read_bad (B : Option Addr) (kind : Int) (l c : Nat) (k v : Int) (w : World) (hl : l ≤ 600) (h : ¬ capOk k v ∨ l < 2 ∨ 500 < l) :
    Calls Try.prog 20 #[.int .u8 kind, .slice B l c, .int .i64 k, .int .i64 v] w fun e w' => e = .returned (.tuple #[.agg #[.bool false, .slice none 0 0, .slice none 0 0, .slice none 0 0], .int .i64 2]) ∧ Below w.heap.size w w' := by
  have HC := Lib.hid (fun w => caps_any k v w)
  have hb0 := Below.refl w.heap.size w
  have hk : (capL k v == 0) = true ∨ ((capL k v == 0) = false ∧ decide ((l : Int) < 2) = true) ∨ ((capL k v == 0) = false ∧ decide ((l : Int) < 2) = false ∧ decide ((500 : Int) < (l : Int)) = true) := by
    by_cases h0 : capL k v = 0
    · exact Or.inl (by simpa using h0)
    · rcases h with h | h | h
      · exact absurd (cap_no h).1 h0
      · exact Or.inr (Or.inl ⟨by simpa using h0, decide_eq_true (by omega)⟩)
      · exact Or.inr (Or.inr ⟨by simpa using h0, decide_eq_false (by omega), decide_eq_true (by omega)⟩)
  clear h
  generalize capL k v = cl at *
  generalize capI k v = ci at *
  rcases hk with h1 | ⟨h1, h2⟩ | ⟨h1, h2, h3⟩
  all_goals (
    go_enter Try.func20, Try.ntmps20
    replace hb0 := Lib.hid hb0
    go_wp2_with fail
    refine (HC.out _).mono ?_
    rintro e w_1 ⟨rfl, hb_1⟩
    have z_1 := hb_1.size
    try simp at z_1
    have t_ := hb0.out
    have hB_1 := bel_eld (w := w) (X := _) (by first | ((repeat (first | with_reducible exact Below.refl _ _ | with_reducible assumption | (with_reducible refine bel_set ?_ (by first | exact Nat.le_refl _ | (simp; done) | (simp; omega) | omega) _) | with_reducible refine bel_grow ?_ _ | with_reducible refine Below.drew ?_ | with_reducible refine below_drewN ?_ _ | with_reducible refine bel_alloc ?_ _ | with_reducible refine bel_trans ?_ (by assumption))); done) | (repeat (first | exact Below.refl _ _ | assumption | refine below_drewN ?_ _ | refine bel_grow ?_ _ | refine Below.drew ?_ | refine bel_alloc ?_ _ | refine bel_set ?_ (by first | exact Nat.le_refl _ | (simp; done) | (simp; omega) | omega) _ | refine bel_trans ?_ (by assumption)))) hb_1
    clear t_
    have g_r : Blk w_1 (w.heap.size) 28 #[.bool false, .slice none 0 0, .slice none 0 0, .slice none 0 0] := by
      refine Blk.kept ?_ hb_1
      (repeat (first | with_reducible assumption | (with_reducible refine Blk.new' ?_; first | with_reducible rfl | (simp; done)) | with_reducible refine Blk.alloc ?_ _ | with_reducible refine Blk.grow ?_ _ | with_reducible refine Blk.drew ?_ | with_reducible refine Blk.drewN ?_ _ | (with_reducible refine Blk.far ?_ (by first | (dsimp only; omega) | (simp; omega)) _) | (with_reducible apply Blk.two) | (with_reducible refine Blk.set' ?_ _ _ ?_) | (with_reducible rfl) | rfl))
    clear hb0 hb_1
    have f_r := g_r
    clear g_r
    have r_0 : w_1.cell? ⟨w.heap.size, 0, none⟩ = some (.bool false) := (f_r).cell 0
    have r_1 : w_1.cell? ⟨w.heap.size, 1, none⟩ = some (.slice none 0 0) := (f_r).cell 1
    have r_2 : w_1.cell? ⟨w.heap.size, 2, none⟩ = some (.slice none 0 0) := (f_r).cell 2
    have r_3 : w_1.cell? ⟨w.heap.size, 3, none⟩ = some (.slice none 0 0) := (f_r).cell 3
    have r_f0 := (f_r).frozen 0
    have r_f1 := (f_r).frozen 1
    have r_f2 := (f_r).frozen 2
    have r_f3 := (f_r).frozen 3
    have r_l := (f_r).lt
    replace f_r := Lib.hid f_r
    replace hB_1 := Lib.hid hB_1
    go_wp2_with fail
    refine abs_post (fun Y_ => Below w.heap.size w Y_ ∧ Blk Y_ w.heap.size 28 #[.bool false, .slice none 0 0, .slice none 0 0, .slice none 0 0]) ⟨by have t_B := hB_1.out; (repeat (first | with_reducible exact Below.refl _ _ | with_reducible assumption | (with_reducible refine bel_set ?_ (by first | exact Nat.le_refl _ | (simp; done) | (simp; omega) | omega) _) | with_reducible refine bel_grow ?_ _ | with_reducible refine Below.drew ?_ | with_reducible refine below_drewN ?_ _ | with_reducible refine bel_alloc ?_ _ | with_reducible refine bel_trans ?_ (by assumption))), Blk.four f_r.out _ _ _ _⟩ ?_
    rintro Y_ ⟨bZ_, gP_⟩
    have p_0 := gP_.cell 0
    have p_1 := gP_.cell 1
    have p_2 := gP_.cell 2
    have p_3 := gP_.cell 3
    have p_l := gP_.lt
    refine bodyPost_ret (v := .tuple #[.agg #[.bool false, .slice none 0 0, .slice none 0 0, .slice none 0 0], .int .i64 2]) (by simp [results, Try.results20, go_sem, p_0, p_1, p_2, p_3, p_l]) rfl ⟨rfl, bZ_⟩
  )

set_option maxRecDepth 8000 in
set_option maxHeartbeats 4000000 in
theorem read_kind (B : Option Addr) (l c k v : Nat) (y : Nat → Int) (w : World) (hy : ∀ i, 0 ≤ y i ∧ y i < 256) (hk : 1 ≤ k ∧ k ≤ 24) (hv : v ≤ 108) (hl : 2 ≤ l ∧ l ≤ 500) (hlc : l ≤ c) (hc : c ≤ maxLen) (hs : SlIs w B l (yV y)) (kind : Int) (hk3 : (kind == 3) = false) (hk4 : (kind == 4) = false) :
    Calls Try.prog 20 #[.int .u8 kind, .slice B l c, .int .i64 k, .int .i64 v] w fun e w' => e = .returned (.tuple #[.agg #[.bool false, .slice none 0 0, .slice none 0 0, .slice none 0 0], .int .i64 2]) ∧ Below w.heap.size w w' := by
  have HC := Lib.hid (fun w => caps_any (k : Int) (v : Int) w)
  have hb0 := Below.refl w.heap.size w
  have h1 : (capL (k : Int) (v : Int) == 0) = false := by simpa using capL_pos hk hv
  have h2 : decide ((l : Int) < 2) = false := decide_eq_false (by omega)
  have h3 : decide ((500 : Int) < (l : Int)) = false := decide_eq_false (by omega)
  obtain ⟨b, o, rfl, hbl, hcl⟩ := hs (by omega)
  have y0 : w.cell? ⟨b, o, none⟩ = some (.int .u8 (y 0)) := hcl 0 (by omega)
  have y1 : w.cell? ⟨b, o + 1, none⟩ = some (.int .u8 (y 1)) := hcl 1 (by omega)
  have yb0 := hy 0
  have yb1 := hy 1
  have hor := or2_cnt y hy
  have hN6 := cntY_lt y hy
  generalize cntY y = N at *
  replace hor := Lib.hid hor
  replace hy := Lib.hid hy
  replace hs := Lib.hid hs
  clear hcl
  generalize capL (k : Int) (v : Int) = cl at *
  generalize capI (k : Int) (v : Int) = ci at *
  unfold maxLen at hc
  go_enter Try.func20, Try.ntmps20
  replace hb0 := Lib.hid hb0
  go_wp2_with fail
  refine (HC.out _).mono ?_
  rintro e w_1 ⟨rfl, hb_1⟩
  have z_1 := hb_1.size
  try simp at z_1
  have t_ := hb0.out
  have hB_1 := bel_eld (w := w) (X := _) (by first | ((repeat (first | with_reducible exact Below.refl _ _ | with_reducible assumption | (with_reducible refine bel_set ?_ (by first | exact Nat.le_refl _ | (simp; done) | (simp; omega) | omega) _) | with_reducible refine bel_grow ?_ _ | with_reducible refine Below.drew ?_ | with_reducible refine below_drewN ?_ _ | with_reducible refine bel_alloc ?_ _ | with_reducible refine bel_trans ?_ (by assumption))); done) | (repeat (first | exact Below.refl _ _ | assumption | refine below_drewN ?_ _ | refine bel_grow ?_ _ | refine Below.drew ?_ | refine bel_alloc ?_ _ | refine bel_set ?_ (by first | exact Nat.le_refl _ | (simp; done) | (simp; omega) | omega) _ | refine bel_trans ?_ (by assumption)))) hb_1
  clear t_
  have g_r : Blk w_1 (w.heap.size) 28 #[.bool false, .slice none 0 0, .slice none 0 0, .slice none 0 0] := by
    refine Blk.kept ?_ hb_1
    (repeat (first | with_reducible assumption | (with_reducible refine Blk.new' ?_; first | with_reducible rfl | (simp; done)) | with_reducible refine Blk.alloc ?_ _ | with_reducible refine Blk.grow ?_ _ | with_reducible refine Blk.drew ?_ | with_reducible refine Blk.drewN ?_ _ | (with_reducible refine Blk.far ?_ (by first | (dsimp only; omega) | (simp; omega)) _) | (with_reducible apply Blk.two) | (with_reducible refine Blk.set' ?_ _ _ ?_) | (with_reducible rfl) | rfl))
  clear hb0 hb_1
  have f_r := g_r
  clear g_r
  have r_0 : w_1.cell? ⟨w.heap.size, 0, none⟩ = some (.bool false) := (f_r).cell 0
  have r_1 : w_1.cell? ⟨w.heap.size, 1, none⟩ = some (.slice none 0 0) := (f_r).cell 1
  have r_2 : w_1.cell? ⟨w.heap.size, 2, none⟩ = some (.slice none 0 0) := (f_r).cell 2
  have r_3 : w_1.cell? ⟨w.heap.size, 3, none⟩ = some (.slice none 0 0) := (f_r).cell 3
  have r_f0 := (f_r).frozen 0
  have r_f1 := (f_r).frozen 1
  have r_f2 := (f_r).frozen 2
  have r_f3 := (f_r).frozen 3
  have r_l := (f_r).lt
  replace f_r := Lib.hid f_r
  replace hB_1 := Lib.hid hB_1
  have y0' := keepc hB_1.out y0
  have y1' := keepc hB_1.out y1
  have hb1' : b < w_1.heap.size := Nat.lt_of_lt_of_le hbl hB_1.out.size
  go_upto_region 4 with fail
  first | (with_reducible refine rgrow2 (by kernel_rfl) (by kernel_rfl) ?_) | (refine rgrow (by kernel_rfl) (by kernel_rfl) ?_)
  repeat (go_big_quiet_step ((fail)))
  refine wpQuiet_nil ?_
  intro dr
  go_wp2_with fail
  refine abs_post (fun Y_ => Below w.heap.size w Y_ ∧ Blk Y_ w.heap.size 28 #[.bool false, .slice none 0 0, .slice none 0 0, .slice none 0 0]) ⟨by have t_B := hB_1.out; (repeat (first | with_reducible exact Below.refl _ _ | with_reducible assumption | (with_reducible refine bel_set ?_ (by first | exact Nat.le_refl _ | (simp; done) | (simp; omega) | omega) _) | with_reducible refine bel_grow ?_ _ | with_reducible refine Below.drew ?_ | with_reducible refine below_drewN ?_ _ | with_reducible refine bel_alloc ?_ _ | with_reducible refine bel_trans ?_ (by assumption))), Blk.alloc (Blk.four (f_r.out.grow dr) _ _ _ _) _⟩ ?_
  rintro Y_ ⟨bZ_, gP_⟩
  have p_0 := gP_.cell 0
  have p_1 := gP_.cell 1
  have p_2 := gP_.cell 2
  have p_3 := gP_.cell 3
  have p_l := gP_.lt
  refine bodyPost_ret (v := .tuple #[.agg #[.bool false, .slice none 0 0, .slice none 0 0, .slice none 0 0], .int .i64 2]) (by simp [results, Try.results20, go_sem, p_0, p_1, p_2, p_3, p_l]) rfl ⟨rfl, bZ_⟩

set_option maxRecDepth 8000 in
set_option maxHeartbeats 4000000 in
theorem read_leaf_no (B : Option Addr) (l c k v : Nat) (y : Nat → Int) (w : World) (hy : ∀ i, 0 ≤ y i ∧ y i < 256) (hk : 1 ≤ k ∧ k ≤ 24) (hv : v ≤ 108) (hl : 2 ≤ l ∧ l ≤ 500) (hlc : l ≤ c) (hc : c ≤ maxLen) (hs : SlIs w B l (yV y)) (hno : l - 2 ≠ cntY y * (k + v)) :
    Calls Try.prog 20 #[.int .u8 3, .slice B l c, .int .i64 k, .int .i64 v] w fun e w' => e = .returned (.tuple #[.agg #[.bool false, .slice none 0 0, .slice none 0 0, .slice none 0 0], .int .i64 2]) ∧ Below w.heap.size w w' := by
  have HL := Lib.hid (fun A m c' W (h : m = l - 2) => leaf_no A m c' (cntY y) k v W (by have := cntY_lt y hy; omega) (by rw [h]; exact hno) (by omega) hk hv)
  clear hno
  have HC := Lib.hid (fun w => caps_any (k : Int) (v : Int) w)
  have hb0 := Below.refl w.heap.size w
  have h1 : (capL (k : Int) (v : Int) == 0) = false := by simpa using capL_pos hk hv
  have h2 : decide ((l : Int) < 2) = false := decide_eq_false (by omega)
  have h3 : decide ((500 : Int) < (l : Int)) = false := decide_eq_false (by omega)
  obtain ⟨b, o, rfl, hbl, hcl⟩ := hs (by omega)
  have y0 : w.cell? ⟨b, o, none⟩ = some (.int .u8 (y 0)) := hcl 0 (by omega)
  have y1 : w.cell? ⟨b, o + 1, none⟩ = some (.int .u8 (y 1)) := hcl 1 (by omega)
  have yb0 := hy 0
  have yb1 := hy 1
  have hor := or2_cnt y hy
  have hN6 := cntY_lt y hy
  generalize cntY y = N at *
  replace hor := Lib.hid hor
  replace hy := Lib.hid hy
  replace hs := Lib.hid hs
  clear hcl
  generalize capL (k : Int) (v : Int) = cl at *
  generalize capI (k : Int) (v : Int) = ci at *
  unfold maxLen at hc
  by_cases hc2 : c = 2
  · obtain rfl : l = 2 := by omega
    subst hc2
    go_enter Try.func20, Try.ntmps20
    replace hb0 := Lib.hid hb0
    go_wp2_with fail
    refine (HC.out _).mono ?_
    rintro e w_1 ⟨rfl, hb_1⟩
    have z_1 := hb_1.size
    try simp at z_1
    have t_ := hb0.out
    have hB_1 := bel_eld (w := w) (X := _) (by first | ((repeat (first | with_reducible exact Below.refl _ _ | with_reducible assumption | (with_reducible refine bel_set ?_ (by first | exact Nat.le_refl _ | (simp; done) | (simp; omega) | omega) _) | with_reducible refine bel_grow ?_ _ | with_reducible refine Below.drew ?_ | with_reducible refine below_drewN ?_ _ | with_reducible refine bel_alloc ?_ _ | with_reducible refine bel_trans ?_ (by assumption))); done) | (repeat (first | exact Below.refl _ _ | assumption | refine below_drewN ?_ _ | refine bel_grow ?_ _ | refine Below.drew ?_ | refine bel_alloc ?_ _ | refine bel_set ?_ (by first | exact Nat.le_refl _ | (simp; done) | (simp; omega) | omega) _ | refine bel_trans ?_ (by assumption)))) hb_1
    clear t_
    have g_r : Blk w_1 (w.heap.size) 28 #[.bool false, .slice none 0 0, .slice none 0 0, .slice none 0 0] := by
      refine Blk.kept ?_ hb_1
      (repeat (first | with_reducible assumption | (with_reducible refine Blk.new' ?_; first | with_reducible rfl | (simp; done)) | with_reducible refine Blk.alloc ?_ _ | with_reducible refine Blk.grow ?_ _ | with_reducible refine Blk.drew ?_ | with_reducible refine Blk.drewN ?_ _ | (with_reducible refine Blk.far ?_ (by first | (dsimp only; omega) | (simp; omega)) _) | (with_reducible apply Blk.two) | (with_reducible refine Blk.set' ?_ _ _ ?_) | (with_reducible rfl) | rfl))
    clear hb0 hb_1
    have f_r := g_r
    clear g_r
    have r_0 : w_1.cell? ⟨w.heap.size, 0, none⟩ = some (.bool false) := (f_r).cell 0
    have r_1 : w_1.cell? ⟨w.heap.size, 1, none⟩ = some (.slice none 0 0) := (f_r).cell 1
    have r_2 : w_1.cell? ⟨w.heap.size, 2, none⟩ = some (.slice none 0 0) := (f_r).cell 2
    have r_3 : w_1.cell? ⟨w.heap.size, 3, none⟩ = some (.slice none 0 0) := (f_r).cell 3
    have r_f0 := (f_r).frozen 0
    have r_f1 := (f_r).frozen 1
    have r_f2 := (f_r).frozen 2
    have r_f3 := (f_r).frozen 3
    have r_l := (f_r).lt
    replace f_r := Lib.hid f_r
    replace hB_1 := Lib.hid hB_1
    have y0' := keepc hB_1.out y0
    have y1' := keepc hB_1.out y1
    have hb1' : b < w_1.heap.size := Nat.lt_of_lt_of_le hbl hB_1.out.size
    go_upto_region 4 with fail
    first | (with_reducible refine rgrow2 (by kernel_rfl) (by kernel_rfl) ?_) | (refine rgrow (by kernel_rfl) (by kernel_rfl) ?_)
    repeat (go_big_quiet_step ((fail)))
    refine wpQuiet_nil ?_
    intro dr
    go_wp2_with fail
    rw [hor.out]
    refine (HL.out _ _ _ _ (by omega)).mono ?_
    rintro e w_2 ⟨rfl, hb_2⟩
    have hwg : w.heap.size < (Grow w_1 dr).heap.size := Nat.lt_of_lt_of_le r_l (grow_size w_1 dr)
    have z_2 := hb_2.size
    try simp at z_2
    have t_ := hB_1.out
    have hB_2 := bel_eld (w := w) (X := _) (by first | ((repeat (first | with_reducible exact Below.refl _ _ | with_reducible assumption | (with_reducible refine bel_set ?_ (by first | exact Nat.le_refl _ | (simp; done) | (simp; omega) | omega) _) | with_reducible refine bel_grow ?_ _ | with_reducible refine Below.drew ?_ | with_reducible refine below_drewN ?_ _ | with_reducible refine bel_alloc ?_ _ | with_reducible refine bel_trans ?_ (by assumption))); done) | (repeat (first | exact Below.refl _ _ | assumption | refine below_drewN ?_ _ | refine bel_grow ?_ _ | refine Below.drew ?_ | refine bel_alloc ?_ _ | refine bel_set ?_ (by first | exact Nat.le_refl _ | (simp; done) | (simp; omega) | omega) _ | refine bel_trans ?_ (by assumption)))) hb_2
    clear t_
    have t_r := f_r.out
    have g_r : Blk w_2 (w.heap.size) 28 #[.bool false, .slice none 0 0, .slice none 0 0, .slice none 0 0] := by
      refine Blk.kept ?_ hb_2
      (repeat (first | with_reducible assumption | (with_reducible refine Blk.new' ?_; first | with_reducible rfl | (simp; done)) | with_reducible refine Blk.alloc ?_ _ | with_reducible refine Blk.grow ?_ _ | with_reducible refine Blk.drew ?_ | with_reducible refine Blk.drewN ?_ _ | (with_reducible refine Blk.far ?_ (by first | (dsimp only; omega) | (simp; omega)) _) | (with_reducible apply Blk.two) | (with_reducible refine Blk.set' ?_ _ _ ?_) | (with_reducible rfl) | rfl))
    have g_n : Blk w_2 ((Grow w_1 dr).heap.size) 28 #[.bool false, .slice none 0 0, .slice none 0 0, .slice none 0 0] := by
      refine Blk.kept ?_ hb_2
      (repeat (first | with_reducible assumption | (with_reducible refine Blk.new' ?_; first | with_reducible rfl | (simp; done)) | with_reducible refine Blk.alloc ?_ _ | with_reducible refine Blk.grow ?_ _ | with_reducible refine Blk.drew ?_ | with_reducible refine Blk.drewN ?_ _ | (with_reducible refine Blk.far ?_ (by first | (dsimp only; omega) | (simp; omega)) _) | (with_reducible apply Blk.two) | (with_reducible refine Blk.set' ?_ _ _ ?_) | (with_reducible rfl) | rfl))
    clear f_r r_l r_0 r_1 r_2 r_3 r_f0 r_f1 r_f2 r_f3 t_r hB_1 hb_2
    have f_r := g_r
    clear g_r
    have f_n := g_n
    clear g_n
    have r_0 : w_2.cell? ⟨w.heap.size, 0, none⟩ = some (.bool false) := (f_r).cell 0
    have r_1 : w_2.cell? ⟨w.heap.size, 1, none⟩ = some (.slice none 0 0) := (f_r).cell 1
    have r_2 : w_2.cell? ⟨w.heap.size, 2, none⟩ = some (.slice none 0 0) := (f_r).cell 2
    have r_3 : w_2.cell? ⟨w.heap.size, 3, none⟩ = some (.slice none 0 0) := (f_r).cell 3
    have r_f0 := (f_r).frozen 0
    have r_f1 := (f_r).frozen 1
    have r_f2 := (f_r).frozen 2
    have r_f3 := (f_r).frozen 3
    have r_l := (f_r).lt
    replace f_r := Lib.hid f_r
    have n_0 : w_2.cell? ⟨(Grow w_1 dr).heap.size, 0, none⟩ = some (.bool false) := (f_n).cell 0
    have n_1 : w_2.cell? ⟨(Grow w_1 dr).heap.size, 1, none⟩ = some (.slice none 0 0) := (f_n).cell 1
    have n_2 : w_2.cell? ⟨(Grow w_1 dr).heap.size, 2, none⟩ = some (.slice none 0 0) := (f_n).cell 2
    have n_3 : w_2.cell? ⟨(Grow w_1 dr).heap.size, 3, none⟩ = some (.slice none 0 0) := (f_n).cell 3
    have n_f0 := (f_n).frozen 0
    have n_f1 := (f_n).frozen 1
    have n_f2 := (f_n).frozen 2
    have n_f3 := (f_n).frozen 3
    have n_l := (f_n).lt
    replace f_n := Lib.hid f_n
    replace hB_2 := Lib.hid hB_2
    generalize (Grow w_1 dr).heap.size = g at *
    have hn1 : (w.heap.size = g) = False := by simp; omega
    have hn2 : (g = w.heap.size) = False := by simp; omega
    go_wp2_with fail
    refine abs_post (fun Y_ => Below w.heap.size w Y_ ∧ Blk Y_ w.heap.size 28 #[.bool false, .slice none 0 0, .slice none 0 0, .slice none 0 0]) ⟨by have t_B := hB_2.out; (repeat (first | with_reducible exact Below.refl _ _ | with_reducible assumption | (with_reducible refine bel_set ?_ (by first | exact Nat.le_refl _ | (simp; done) | (simp; omega) | omega) _) | with_reducible refine bel_grow ?_ _ | with_reducible refine Below.drew ?_ | with_reducible refine below_drewN ?_ _ | with_reducible refine bel_alloc ?_ _ | with_reducible refine bel_trans ?_ (by assumption))), Blk.four (Blk.far (Blk.far (Blk.far (Blk.far f_r.out (by have := r_l; dsimp only; omega) _) (by have := r_l; dsimp only; omega) _) (by have := r_l; dsimp only; omega) _) (by have := r_l; dsimp only; omega) _) _ _ _ _⟩ ?_
    rintro Y_ ⟨bZ_, gP_⟩
    have p_0 := gP_.cell 0
    have p_1 := gP_.cell 1
    have p_2 := gP_.cell 2
    have p_3 := gP_.cell 3
    have p_l := gP_.lt
    refine bodyPost_ret (v := .tuple #[.agg #[.bool false, .slice none 0 0, .slice none 0 0, .slice none 0 0], .int .i64 2]) (by simp [results, Try.results20, go_sem, p_0, p_1, p_2, p_3, p_l]) rfl ⟨rfl, bZ_⟩
  · have hc2' : ¬ (2 : Nat) = c := by omega
    have hc2i : ¬ (2 : Int) = (c : Int) := by omega
    go_enter Try.func20, Try.ntmps20
    replace hb0 := Lib.hid hb0
    go_wp2_with fail
    refine (HC.out _).mono ?_
    rintro e w_1 ⟨rfl, hb_1⟩
    have z_1 := hb_1.size
    try simp at z_1
    have t_ := hb0.out
    have hB_1 := bel_eld (w := w) (X := _) (by first | ((repeat (first | with_reducible exact Below.refl _ _ | with_reducible assumption | (with_reducible refine bel_set ?_ (by first | exact Nat.le_refl _ | (simp; done) | (simp; omega) | omega) _) | with_reducible refine bel_grow ?_ _ | with_reducible refine Below.drew ?_ | with_reducible refine below_drewN ?_ _ | with_reducible refine bel_alloc ?_ _ | with_reducible refine bel_trans ?_ (by assumption))); done) | (repeat (first | exact Below.refl _ _ | assumption | refine below_drewN ?_ _ | refine bel_grow ?_ _ | refine Below.drew ?_ | refine bel_alloc ?_ _ | refine bel_set ?_ (by first | exact Nat.le_refl _ | (simp; done) | (simp; omega) | omega) _ | refine bel_trans ?_ (by assumption)))) hb_1
    clear t_
    have g_r : Blk w_1 (w.heap.size) 28 #[.bool false, .slice none 0 0, .slice none 0 0, .slice none 0 0] := by
      refine Blk.kept ?_ hb_1
      (repeat (first | with_reducible assumption | (with_reducible refine Blk.new' ?_; first | with_reducible rfl | (simp; done)) | with_reducible refine Blk.alloc ?_ _ | with_reducible refine Blk.grow ?_ _ | with_reducible refine Blk.drew ?_ | with_reducible refine Blk.drewN ?_ _ | (with_reducible refine Blk.far ?_ (by first | (dsimp only; omega) | (simp; omega)) _) | (with_reducible apply Blk.two) | (with_reducible refine Blk.set' ?_ _ _ ?_) | (with_reducible rfl) | rfl))
    clear hb0 hb_1
    have f_r := g_r
    clear g_r
    have r_0 : w_1.cell? ⟨w.heap.size, 0, none⟩ = some (.bool false) := (f_r).cell 0
    have r_1 : w_1.cell? ⟨w.heap.size, 1, none⟩ = some (.slice none 0 0) := (f_r).cell 1
    have r_2 : w_1.cell? ⟨w.heap.size, 2, none⟩ = some (.slice none 0 0) := (f_r).cell 2
    have r_3 : w_1.cell? ⟨w.heap.size, 3, none⟩ = some (.slice none 0 0) := (f_r).cell 3
    have r_f0 := (f_r).frozen 0
    have r_f1 := (f_r).frozen 1
    have r_f2 := (f_r).frozen 2
    have r_f3 := (f_r).frozen 3
    have r_l := (f_r).lt
    replace f_r := Lib.hid f_r
    replace hB_1 := Lib.hid hB_1
    have y0' := keepc hB_1.out y0
    have y1' := keepc hB_1.out y1
    have hb1' : b < w_1.heap.size := Nat.lt_of_lt_of_le hbl hB_1.out.size
    go_upto_region 4 with fail
    first | (with_reducible refine rgrow2 (by kernel_rfl) (by kernel_rfl) ?_) | (refine rgrow (by kernel_rfl) (by kernel_rfl) ?_)
    repeat (go_big_quiet_step ((fail)))
    refine wpQuiet_nil ?_
    intro dr
    go_wp2_with fail
    rw [hor.out]
    refine (HL.out _ _ _ _ (by omega)).mono ?_
    rintro e w_2 ⟨rfl, hb_2⟩
    have hwg : w.heap.size < (Grow w_1 dr).heap.size := Nat.lt_of_lt_of_le r_l (grow_size w_1 dr)
    have z_2 := hb_2.size
    try simp at z_2
    have t_ := hB_1.out
    have hB_2 := bel_eld (w := w) (X := _) (by first | ((repeat (first | with_reducible exact Below.refl _ _ | with_reducible assumption | (with_reducible refine bel_set ?_ (by first | exact Nat.le_refl _ | (simp; done) | (simp; omega) | omega) _) | with_reducible refine bel_grow ?_ _ | with_reducible refine Below.drew ?_ | with_reducible refine below_drewN ?_ _ | with_reducible refine bel_alloc ?_ _ | with_reducible refine bel_trans ?_ (by assumption))); done) | (repeat (first | exact Below.refl _ _ | assumption | refine below_drewN ?_ _ | refine bel_grow ?_ _ | refine Below.drew ?_ | refine bel_alloc ?_ _ | refine bel_set ?_ (by first | exact Nat.le_refl _ | (simp; done) | (simp; omega) | omega) _ | refine bel_trans ?_ (by assumption)))) hb_2
    clear t_
    have t_r := f_r.out
    have g_r : Blk w_2 (w.heap.size) 28 #[.bool false, .slice none 0 0, .slice none 0 0, .slice none 0 0] := by
      refine Blk.kept ?_ hb_2
      (repeat (first | with_reducible assumption | (with_reducible refine Blk.new' ?_; first | with_reducible rfl | (simp; done)) | with_reducible refine Blk.alloc ?_ _ | with_reducible refine Blk.grow ?_ _ | with_reducible refine Blk.drew ?_ | with_reducible refine Blk.drewN ?_ _ | (with_reducible refine Blk.far ?_ (by first | (dsimp only; omega) | (simp; omega)) _) | (with_reducible apply Blk.two) | (with_reducible refine Blk.set' ?_ _ _ ?_) | (with_reducible rfl) | rfl))
    have g_n : Blk w_2 ((Grow w_1 dr).heap.size) 28 #[.bool false, .slice none 0 0, .slice none 0 0, .slice none 0 0] := by
      refine Blk.kept ?_ hb_2
      (repeat (first | with_reducible assumption | (with_reducible refine Blk.new' ?_; first | with_reducible rfl | (simp; done)) | with_reducible refine Blk.alloc ?_ _ | with_reducible refine Blk.grow ?_ _ | with_reducible refine Blk.drew ?_ | with_reducible refine Blk.drewN ?_ _ | (with_reducible refine Blk.far ?_ (by first | (dsimp only; omega) | (simp; omega)) _) | (with_reducible apply Blk.two) | (with_reducible refine Blk.set' ?_ _ _ ?_) | (with_reducible rfl) | rfl))
    clear f_r r_l r_0 r_1 r_2 r_3 r_f0 r_f1 r_f2 r_f3 t_r hB_1 hb_2
    have f_r := g_r
    clear g_r
    have f_n := g_n
    clear g_n
    have r_0 : w_2.cell? ⟨w.heap.size, 0, none⟩ = some (.bool false) := (f_r).cell 0
    have r_1 : w_2.cell? ⟨w.heap.size, 1, none⟩ = some (.slice none 0 0) := (f_r).cell 1
    have r_2 : w_2.cell? ⟨w.heap.size, 2, none⟩ = some (.slice none 0 0) := (f_r).cell 2
    have r_3 : w_2.cell? ⟨w.heap.size, 3, none⟩ = some (.slice none 0 0) := (f_r).cell 3
    have r_f0 := (f_r).frozen 0
    have r_f1 := (f_r).frozen 1
    have r_f2 := (f_r).frozen 2
    have r_f3 := (f_r).frozen 3
    have r_l := (f_r).lt
    replace f_r := Lib.hid f_r
    have n_0 : w_2.cell? ⟨(Grow w_1 dr).heap.size, 0, none⟩ = some (.bool false) := (f_n).cell 0
    have n_1 : w_2.cell? ⟨(Grow w_1 dr).heap.size, 1, none⟩ = some (.slice none 0 0) := (f_n).cell 1
    have n_2 : w_2.cell? ⟨(Grow w_1 dr).heap.size, 2, none⟩ = some (.slice none 0 0) := (f_n).cell 2
    have n_3 : w_2.cell? ⟨(Grow w_1 dr).heap.size, 3, none⟩ = some (.slice none 0 0) := (f_n).cell 3
    have n_f0 := (f_n).frozen 0
    have n_f1 := (f_n).frozen 1
    have n_f2 := (f_n).frozen 2
    have n_f3 := (f_n).frozen 3
    have n_l := (f_n).lt
    replace f_n := Lib.hid f_n
    replace hB_2 := Lib.hid hB_2
    generalize (Grow w_1 dr).heap.size = g at *
    have hn1 : (w.heap.size = g) = False := by simp; omega
    have hn2 : (g = w.heap.size) = False := by simp; omega
    go_wp2_with fail
    refine abs_post (fun Y_ => Below w.heap.size w Y_ ∧ Blk Y_ w.heap.size 28 #[.bool false, .slice none 0 0, .slice none 0 0, .slice none 0 0]) ⟨by have t_B := hB_2.out; (repeat (first | with_reducible exact Below.refl _ _ | with_reducible assumption | (with_reducible refine bel_set ?_ (by first | exact Nat.le_refl _ | (simp; done) | (simp; omega) | omega) _) | with_reducible refine bel_grow ?_ _ | with_reducible refine Below.drew ?_ | with_reducible refine below_drewN ?_ _ | with_reducible refine bel_alloc ?_ _ | with_reducible refine bel_trans ?_ (by assumption))), Blk.four (Blk.far (Blk.far (Blk.far (Blk.far f_r.out (by have := r_l; dsimp only; omega) _) (by have := r_l; dsimp only; omega) _) (by have := r_l; dsimp only; omega) _) (by have := r_l; dsimp only; omega) _) _ _ _ _⟩ ?_
    rintro Y_ ⟨bZ_, gP_⟩
    have p_0 := gP_.cell 0
    have p_1 := gP_.cell 1
    have p_2 := gP_.cell 2
    have p_3 := gP_.cell 3
    have p_l := gP_.lt
    refine bodyPost_ret (v := .tuple #[.agg #[.bool false, .slice none 0 0, .slice none 0 0, .slice none 0 0], .int .i64 2]) (by simp [results, Try.results20, go_sem, p_0, p_1, p_2, p_3, p_l]) rfl ⟨rfl, bZ_⟩

set_option maxRecDepth 8000 in
set_option maxHeartbeats 4000000 in
theorem read_leaf_wrong (B : Option Addr) (l c k v : Nat) (y : Nat → Int) (w : World) (hy : ∀ i, 0 ≤ y i ∧ y i < 256) (hk : 1 ≤ k ∧ k ≤ 24) (hv : v ≤ 108) (hl : 2 ≤ l ∧ l ≤ 500) (hlc : l ≤ c) (hc : c ≤ maxLen) (hs : SlIs w B l (yV y)) (hyes : l - 2 = cntY y * (k + v)) (hq : rightB (ndL k v y (cntY y)) k v = false) :
    Calls Try.prog 20 #[.int .u8 3, .slice B l c, .int .i64 k, .int .i64 v] w fun e w' => e = .returned (.tuple #[.agg #[.bool false, .slice none 0 0, .slice none 0 0, .slice none 0 0], .int .i64 2]) ∧ Below w.heap.size w w' := by
  have HL := fun A m c' W (h : m = l - 2) (h2 : m ≤ c') (h3 : c' ≤ maxLen) (h4 : SlIs W A m (yV (shf y 2))) => leaf_yes A m c' (cntY y) k v (shf y 2) W (h.trans hyes) (by omega) hk hv h2 h3 h4
  simp only [shf_shf] at HL
  have hcb : cntY y ≤ 498 := by
    have : cntY y * 1 ≤ cntY y * (k + v) := Nat.mul_le_mul_left _ (by omega)
    omega
  have HQ := fun KA VA kc vc W (hN : RsIs W KA (cntY y) (fun _ => k) (fun i => shf y (2 + i * (k + v))) ∧ RsIs W VA (cntY y) (fun _ => v) (fun i => shf y (2 + (i * (k + v) + k)))) => right_any true KA VA none (cntY y) kc (cntY y) vc 0 0 (fun _ => k) (fun _ => v) (fun i => shf y (2 + i * (k + v))) (fun i => shf y (2 + (i * (k + v) + k))) (fun _ => 0) k v W ⟨hN.1, hN.2, SlIs.nil, by show cntY y ≤ 1000000; omega, by show cntY y ≤ 1000000; omega, by show 0 ≤ 1000000; omega⟩
  rw [show rightB ⟨true, cntY y, fun _ => k, fun i => shf y (2 + i * (k + v)), cntY y, fun _ => v, fun i => shf y (2 + (i * (k + v) + k)), 0, fun _ => 0⟩ (k : Int) (v : Int) = false from hq] at HQ
  replace HQ := Lib.hid HQ
  replace HL := Lib.hid HL
  clear hyes hq
  have HC := Lib.hid (fun w => caps_any (k : Int) (v : Int) w)
  have hb0 := Below.refl w.heap.size w
  have h1 : (capL (k : Int) (v : Int) == 0) = false := by simpa using capL_pos hk hv
  have h2 : decide ((l : Int) < 2) = false := decide_eq_false (by omega)
  have h3 : decide ((500 : Int) < (l : Int)) = false := decide_eq_false (by omega)
  obtain ⟨b, o, rfl, hbl, hcl⟩ := hs (by omega)
  have y0 : w.cell? ⟨b, o, none⟩ = some (.int .u8 (y 0)) := hcl 0 (by omega)
  have y1 : w.cell? ⟨b, o + 1, none⟩ = some (.int .u8 (y 1)) := hcl 1 (by omega)
  have yb0 := hy 0
  have yb1 := hy 1
  have hor := or2_cnt y hy
  have hN6 := cntY_lt y hy
  generalize cntY y = N at *
  replace hor := Lib.hid hor
  replace hy := Lib.hid hy
  replace hs := Lib.hid hs
  clear hcl
  generalize capL (k : Int) (v : Int) = cl at *
  generalize capI (k : Int) (v : Int) = ci at *
  unfold maxLen at hc
  by_cases hc2 : c = 2
  · obtain rfl : l = 2 := by omega
    subst hc2
    go_enter Try.func20, Try.ntmps20
    replace hb0 := Lib.hid hb0
    go_wp2_with fail
    refine (HC.out _).mono ?_
    rintro e w_1 ⟨rfl, hb_1⟩
    have z_1 := hb_1.size
    try simp at z_1
    have t_ := hb0.out
    have hB_1 := bel_eld (w := w) (X := _) (by first | ((repeat (first | with_reducible exact Below.refl _ _ | with_reducible assumption | (with_reducible refine bel_set ?_ (by first | exact Nat.le_refl _ | (simp; done) | (simp; omega) | omega) _) | with_reducible refine bel_grow ?_ _ | with_reducible refine Below.drew ?_ | with_reducible refine below_drewN ?_ _ | with_reducible refine bel_alloc ?_ _ | with_reducible refine bel_trans ?_ (by assumption))); done) | (repeat (first | exact Below.refl _ _ | assumption | refine below_drewN ?_ _ | refine bel_grow ?_ _ | refine Below.drew ?_ | refine bel_alloc ?_ _ | refine bel_set ?_ (by first | exact Nat.le_refl _ | (simp; done) | (simp; omega) | omega) _ | refine bel_trans ?_ (by assumption)))) hb_1
    clear t_
    have g_r : Blk w_1 (w.heap.size) 28 #[.bool false, .slice none 0 0, .slice none 0 0, .slice none 0 0] := by
      refine Blk.kept ?_ hb_1
      (repeat (first | with_reducible assumption | (with_reducible refine Blk.new' ?_; first | with_reducible rfl | (simp; done)) | with_reducible refine Blk.alloc ?_ _ | with_reducible refine Blk.grow ?_ _ | with_reducible refine Blk.drew ?_ | with_reducible refine Blk.drewN ?_ _ | (with_reducible refine Blk.far ?_ (by first | (dsimp only; omega) | (simp; omega)) _) | (with_reducible apply Blk.two) | (with_reducible refine Blk.set' ?_ _ _ ?_) | (with_reducible rfl) | rfl))
    clear hb0 hb_1
    have f_r := g_r
    clear g_r
    have r_0 : w_1.cell? ⟨w.heap.size, 0, none⟩ = some (.bool false) := (f_r).cell 0
    have r_1 : w_1.cell? ⟨w.heap.size, 1, none⟩ = some (.slice none 0 0) := (f_r).cell 1
    have r_2 : w_1.cell? ⟨w.heap.size, 2, none⟩ = some (.slice none 0 0) := (f_r).cell 2
    have r_3 : w_1.cell? ⟨w.heap.size, 3, none⟩ = some (.slice none 0 0) := (f_r).cell 3
    have r_f0 := (f_r).frozen 0
    have r_f1 := (f_r).frozen 1
    have r_f2 := (f_r).frozen 2
    have r_f3 := (f_r).frozen 3
    have r_l := (f_r).lt
    replace f_r := Lib.hid f_r
    replace hB_1 := Lib.hid hB_1
    have y0' := keepc hB_1.out y0
    have y1' := keepc hB_1.out y1
    have hb1' : b < w_1.heap.size := Nat.lt_of_lt_of_le hbl hB_1.out.size
    go_upto_region 4 with fail
    first | (with_reducible refine rgrow2 (by kernel_rfl) (by kernel_rfl) ?_) | (refine rgrow (by kernel_rfl) (by kernel_rfl) ?_)
    repeat (go_big_quiet_step ((fail)))
    refine wpQuiet_nil ?_
    intro dr
    go_wp2_with fail
    rw [hor.out]
    refine (HL.out _ _ _ _ (by omega) (by omega) (by unfold maxLen; omega) (by first | exact SlIs.nil | exact (SlIs.from2 hs.out).below (by have t_B := hB_1.out; (repeat (first | with_reducible exact Below.refl _ _ | with_reducible assumption | (with_reducible refine bel_set ?_ (by first | exact Nat.le_refl _ | (simp; done) | (simp; omega) | omega) _) | with_reducible refine bel_grow ?_ _ | with_reducible refine Below.drew ?_ | with_reducible refine below_drewN ?_ _ | with_reducible refine bel_alloc ?_ _ | with_reducible refine bel_trans ?_ (by assumption)))))).mono ?_
    rintro e w_2 ⟨A1, e1, A2, e2, rfl, hR, hb_2⟩
    have hwg : w.heap.size < (Grow w_1 dr).heap.size := Nat.lt_of_lt_of_le r_l (grow_size w_1 dr)
    have hR2 := Lib.hid (fun Z (hZ : Above ((Grow w_1 dr).heap.size + 1) w_2 Z) => hR Z (by simpa using hZ))
    clear hR
    have z_2 := hb_2.size
    try simp at z_2
    have t_ := hB_1.out
    have hB_2 := bel_eld (w := w) (X := _) (by first | ((repeat (first | with_reducible exact Below.refl _ _ | with_reducible assumption | (with_reducible refine bel_set ?_ (by first | exact Nat.le_refl _ | (simp; done) | (simp; omega) | omega) _) | with_reducible refine bel_grow ?_ _ | with_reducible refine Below.drew ?_ | with_reducible refine below_drewN ?_ _ | with_reducible refine bel_alloc ?_ _ | with_reducible refine bel_trans ?_ (by assumption))); done) | (repeat (first | exact Below.refl _ _ | assumption | refine below_drewN ?_ _ | refine bel_grow ?_ _ | refine Below.drew ?_ | refine bel_alloc ?_ _ | refine bel_set ?_ (by first | exact Nat.le_refl _ | (simp; done) | (simp; omega) | omega) _ | refine bel_trans ?_ (by assumption)))) hb_2
    clear t_
    have t_r := f_r.out
    have g_r : Blk w_2 (w.heap.size) 28 #[.bool false, .slice none 0 0, .slice none 0 0, .slice none 0 0] := by
      refine Blk.kept ?_ hb_2
      (repeat (first | with_reducible assumption | (with_reducible refine Blk.new' ?_; first | with_reducible rfl | (simp; done)) | with_reducible refine Blk.alloc ?_ _ | with_reducible refine Blk.grow ?_ _ | with_reducible refine Blk.drew ?_ | with_reducible refine Blk.drewN ?_ _ | (with_reducible refine Blk.far ?_ (by first | (dsimp only; omega) | (simp; omega)) _) | (with_reducible apply Blk.two) | (with_reducible refine Blk.set' ?_ _ _ ?_) | (with_reducible rfl) | rfl))
    have g_n : Blk w_2 ((Grow w_1 dr).heap.size) 28 #[.bool false, .slice none 0 0, .slice none 0 0, .slice none 0 0] := by
      refine Blk.kept ?_ hb_2
      (repeat (first | with_reducible assumption | (with_reducible refine Blk.new' ?_; first | with_reducible rfl | (simp; done)) | with_reducible refine Blk.alloc ?_ _ | with_reducible refine Blk.grow ?_ _ | with_reducible refine Blk.drew ?_ | with_reducible refine Blk.drewN ?_ _ | (with_reducible refine Blk.far ?_ (by first | (dsimp only; omega) | (simp; omega)) _) | (with_reducible apply Blk.two) | (with_reducible refine Blk.set' ?_ _ _ ?_) | (with_reducible rfl) | rfl))
    clear f_r r_l r_0 r_1 r_2 r_3 r_f0 r_f1 r_f2 r_f3 t_r hB_1 hb_2
    have f_r := g_r
    clear g_r
    have f_n := g_n
    clear g_n
    have r_0 : w_2.cell? ⟨w.heap.size, 0, none⟩ = some (.bool false) := (f_r).cell 0
    have r_1 : w_2.cell? ⟨w.heap.size, 1, none⟩ = some (.slice none 0 0) := (f_r).cell 1
    have r_2 : w_2.cell? ⟨w.heap.size, 2, none⟩ = some (.slice none 0 0) := (f_r).cell 2
    have r_3 : w_2.cell? ⟨w.heap.size, 3, none⟩ = some (.slice none 0 0) := (f_r).cell 3
    have r_f0 := (f_r).frozen 0
    have r_f1 := (f_r).frozen 1
    have r_f2 := (f_r).frozen 2
    have r_f3 := (f_r).frozen 3
    have r_l := (f_r).lt
    replace f_r := Lib.hid f_r
    have n_0 : w_2.cell? ⟨(Grow w_1 dr).heap.size, 0, none⟩ = some (.bool false) := (f_n).cell 0
    have n_1 : w_2.cell? ⟨(Grow w_1 dr).heap.size, 1, none⟩ = some (.slice none 0 0) := (f_n).cell 1
    have n_2 : w_2.cell? ⟨(Grow w_1 dr).heap.size, 2, none⟩ = some (.slice none 0 0) := (f_n).cell 2
    have n_3 : w_2.cell? ⟨(Grow w_1 dr).heap.size, 3, none⟩ = some (.slice none 0 0) := (f_n).cell 3
    have n_f0 := (f_n).frozen 0
    have n_f1 := (f_n).frozen 1
    have n_f2 := (f_n).frozen 2
    have n_f3 := (f_n).frozen 3
    have n_l := (f_n).lt
    replace f_n := Lib.hid f_n
    replace hB_2 := Lib.hid hB_2
    generalize (Grow w_1 dr).heap.size = g at *
    have hn1 : (w.heap.size = g) = False := by simp; omega
    have hn2 : (g = w.heap.size) = False := by simp; omega
    go_wp2_with fail
    have q4 := Blk.four f_n.out (.bool true) (.slice A1 N e1) (.slice A2 N e2) (.slice none 0 0)
    refine (HQ.out A1 A2 _ _ _ (hR2.out _ (((((Above.refl (g + 1) w_2).set (p := ⟨g, 0, none⟩) (by dsimp only; omega) _).set (p := ⟨g, 1, none⟩) (by dsimp only; omega) _).set (p := ⟨g, 2, none⟩) (by dsimp only; omega) _).set (p := ⟨g, 3, none⟩) (by dsimp only; omega) _))).mono ?_
    rintro e w_3 ⟨rfl, hb_3⟩
    have kb3 := Lib.hid hb_3
    have z_3 := hb_3.size
    try simp at z_3
    have t_ := hB_2.out
    have hB_3 := bel_eld (w := w) (X := _) (by first | ((repeat (first | with_reducible exact Below.refl _ _ | with_reducible assumption | (with_reducible refine bel_set ?_ (by first | exact Nat.le_refl _ | (simp; done) | (simp; omega) | omega) _) | with_reducible refine bel_grow ?_ _ | with_reducible refine Below.drew ?_ | with_reducible refine below_drewN ?_ _ | with_reducible refine bel_alloc ?_ _ | with_reducible refine bel_trans ?_ (by assumption))); done) | (repeat (first | exact Below.refl _ _ | assumption | refine below_drewN ?_ _ | refine bel_grow ?_ _ | refine Below.drew ?_ | refine bel_alloc ?_ _ | refine bel_set ?_ (by first | exact Nat.le_refl _ | (simp; done) | (simp; omega) | omega) _ | refine bel_trans ?_ (by assumption)))) hb_3
    clear t_
    have t_r := f_r.out
    have g_r : Blk w_3 (w.heap.size) 28 #[.bool false, .slice none 0 0, .slice none 0 0, .slice none 0 0] := by
      refine Blk.kept ?_ hb_3
      (repeat (first | with_reducible assumption | (with_reducible refine Blk.new' ?_; first | with_reducible rfl | (simp; done)) | with_reducible refine Blk.alloc ?_ _ | with_reducible refine Blk.grow ?_ _ | with_reducible refine Blk.drew ?_ | with_reducible refine Blk.drewN ?_ _ | (with_reducible refine Blk.far ?_ (by first | (dsimp only; omega) | (simp; omega)) _) | (with_reducible apply Blk.two) | (with_reducible refine Blk.set' ?_ _ _ ?_) | (with_reducible rfl) | rfl))
    have g_m : Blk w_3 (g) 28 #[.bool true, .slice A1 N e1, .slice A2 N e2, .slice none 0 0] := by
      refine Blk.kept ?_ hb_3
      (repeat (first | with_reducible assumption | (with_reducible refine Blk.new' ?_; first | with_reducible rfl | (simp; done)) | with_reducible refine Blk.alloc ?_ _ | with_reducible refine Blk.grow ?_ _ | with_reducible refine Blk.drew ?_ | with_reducible refine Blk.drewN ?_ _ | (with_reducible refine Blk.far ?_ (by first | (dsimp only; omega) | (simp; omega)) _) | (with_reducible apply Blk.two) | (with_reducible refine Blk.set' ?_ _ _ ?_) | (with_reducible rfl) | rfl))
    clear f_r r_l r_0 r_1 r_2 r_3 r_f0 r_f1 r_f2 r_f3 f_n n_l n_0 n_1 n_2 n_3 n_f0 n_f1 n_f2 n_f3 t_r hB_2 hb_3
    have f_r := g_r
    clear g_r
    have f_m := g_m
    clear g_m
    have r_0 : w_3.cell? ⟨w.heap.size, 0, none⟩ = some (.bool false) := (f_r).cell 0
    have r_1 : w_3.cell? ⟨w.heap.size, 1, none⟩ = some (.slice none 0 0) := (f_r).cell 1
    have r_2 : w_3.cell? ⟨w.heap.size, 2, none⟩ = some (.slice none 0 0) := (f_r).cell 2
    have r_3 : w_3.cell? ⟨w.heap.size, 3, none⟩ = some (.slice none 0 0) := (f_r).cell 3
    have r_f0 := (f_r).frozen 0
    have r_f1 := (f_r).frozen 1
    have r_f2 := (f_r).frozen 2
    have r_f3 := (f_r).frozen 3
    have r_l := (f_r).lt
    replace f_r := Lib.hid f_r
    have m_0 : w_3.cell? ⟨g, 0, none⟩ = some (.bool true) := (f_m).cell 0
    have m_1 : w_3.cell? ⟨g, 1, none⟩ = some (.slice A1 N e1) := (f_m).cell 1
    have m_2 : w_3.cell? ⟨g, 2, none⟩ = some (.slice A2 N e2) := (f_m).cell 2
    have m_3 : w_3.cell? ⟨g, 3, none⟩ = some (.slice none 0 0) := (f_m).cell 3
    have m_f0 := (f_m).frozen 0
    have m_f1 := (f_m).frozen 1
    have m_f2 := (f_m).frozen 2
    have m_f3 := (f_m).frozen 3
    have m_l := (f_m).lt
    replace f_m := Lib.hid f_m
    replace hB_3 := Lib.hid hB_3
    clear q4
    go_wp2_with fail
    refine abs_post (fun Y_ => Below w.heap.size w Y_ ∧ Blk Y_ w.heap.size 28 #[.bool false, .slice none 0 0, .slice none 0 0, .slice none 0 0]) ⟨by have t_B := hB_3.out; (repeat (first | with_reducible exact Below.refl _ _ | with_reducible assumption | (with_reducible refine bel_set ?_ (by first | exact Nat.le_refl _ | (simp; done) | (simp; omega) | omega) _) | with_reducible refine bel_grow ?_ _ | with_reducible refine Below.drew ?_ | with_reducible refine below_drewN ?_ _ | with_reducible refine bel_alloc ?_ _ | with_reducible refine bel_trans ?_ (by assumption))), Blk.four f_r.out _ _ _ _⟩ ?_
    rintro Y_ ⟨bZ_, gP_⟩
    have p_0 := gP_.cell 0
    have p_1 := gP_.cell 1
    have p_2 := gP_.cell 2
    have p_3 := gP_.cell 3
    have p_l := gP_.lt
    refine bodyPost_ret (v := .tuple #[.agg #[.bool false, .slice none 0 0, .slice none 0 0, .slice none 0 0], .int .i64 2]) (by simp [results, Try.results20, go_sem, p_0, p_1, p_2, p_3, p_l]) rfl ⟨rfl, bZ_⟩
  · have hc2' : ¬ (2 : Nat) = c := by omega
    have hc2i : ¬ (2 : Int) = (c : Int) := by omega
    go_enter Try.func20, Try.ntmps20
    replace hb0 := Lib.hid hb0
    go_wp2_with fail
    refine (HC.out _).mono ?_
    rintro e w_1 ⟨rfl, hb_1⟩
    have z_1 := hb_1.size
    try simp at z_1
    have t_ := hb0.out
    have hB_1 := bel_eld (w := w) (X := _) (by first | ((repeat (first | with_reducible exact Below.refl _ _ | with_reducible assumption | (with_reducible refine bel_set ?_ (by first | exact Nat.le_refl _ | (simp; done) | (simp; omega) | omega) _) | with_reducible refine bel_grow ?_ _ | with_reducible refine Below.drew ?_ | with_reducible refine below_drewN ?_ _ | with_reducible refine bel_alloc ?_ _ | with_reducible refine bel_trans ?_ (by assumption))); done) | (repeat (first | exact Below.refl _ _ | assumption | refine below_drewN ?_ _ | refine bel_grow ?_ _ | refine Below.drew ?_ | refine bel_alloc ?_ _ | refine bel_set ?_ (by first | exact Nat.le_refl _ | (simp; done) | (simp; omega) | omega) _ | refine bel_trans ?_ (by assumption)))) hb_1
    clear t_
    have g_r : Blk w_1 (w.heap.size) 28 #[.bool false, .slice none 0 0, .slice none 0 0, .slice none 0 0] := by
      refine Blk.kept ?_ hb_1
      (repeat (first | with_reducible assumption | (with_reducible refine Blk.new' ?_; first | with_reducible rfl | (simp; done)) | with_reducible refine Blk.alloc ?_ _ | with_reducible refine Blk.grow ?_ _ | with_reducible refine Blk.drew ?_ | with_reducible refine Blk.drewN ?_ _ | (with_reducible refine Blk.far ?_ (by first | (dsimp only; omega) | (simp; omega)) _) | (with_reducible apply Blk.two) | (with_reducible refine Blk.set' ?_ _ _ ?_) | (with_reducible rfl) | rfl))
    clear hb0 hb_1
    have f_r := g_r
    clear g_r
    have r_0 : w_1.cell? ⟨w.heap.size, 0, none⟩ = some (.bool false) := (f_r).cell 0
    have r_1 : w_1.cell? ⟨w.heap.size, 1, none⟩ = some (.slice none 0 0) := (f_r).cell 1
    have r_2 : w_1.cell? ⟨w.heap.size, 2, none⟩ = some (.slice none 0 0) := (f_r).cell 2
    have r_3 : w_1.cell? ⟨w.heap.size, 3, none⟩ = some (.slice none 0 0) := (f_r).cell 3
    have r_f0 := (f_r).frozen 0
    have r_f1 := (f_r).frozen 1
    have r_f2 := (f_r).frozen 2
    have r_f3 := (f_r).frozen 3
    have r_l := (f_r).lt
    replace f_r := Lib.hid f_r
    replace hB_1 := Lib.hid hB_1
    have y0' := keepc hB_1.out y0
    have y1' := keepc hB_1.out y1
    have hb1' : b < w_1.heap.size := Nat.lt_of_lt_of_le hbl hB_1.out.size
    go_upto_region 4 with fail
    first | (with_reducible refine rgrow2 (by kernel_rfl) (by kernel_rfl) ?_) | (refine rgrow (by kernel_rfl) (by kernel_rfl) ?_)
    repeat (go_big_quiet_step ((fail)))
    refine wpQuiet_nil ?_
    intro dr
    go_wp2_with fail
    rw [hor.out]
    refine (HL.out _ _ _ _ (by omega) (by omega) (by unfold maxLen; omega) (by first | exact SlIs.nil | exact (SlIs.from2 hs.out).below (by have t_B := hB_1.out; (repeat (first | with_reducible exact Below.refl _ _ | with_reducible assumption | (with_reducible refine bel_set ?_ (by first | exact Nat.le_refl _ | (simp; done) | (simp; omega) | omega) _) | with_reducible refine bel_grow ?_ _ | with_reducible refine Below.drew ?_ | with_reducible refine below_drewN ?_ _ | with_reducible refine bel_alloc ?_ _ | with_reducible refine bel_trans ?_ (by assumption)))))).mono ?_
    rintro e w_2 ⟨A1, e1, A2, e2, rfl, hR, hb_2⟩
    have hwg : w.heap.size < (Grow w_1 dr).heap.size := Nat.lt_of_lt_of_le r_l (grow_size w_1 dr)
    have hR2 := Lib.hid (fun Z (hZ : Above ((Grow w_1 dr).heap.size + 1) w_2 Z) => hR Z (by simpa using hZ))
    clear hR
    have z_2 := hb_2.size
    try simp at z_2
    have t_ := hB_1.out
    have hB_2 := bel_eld (w := w) (X := _) (by first | ((repeat (first | with_reducible exact Below.refl _ _ | with_reducible assumption | (with_reducible refine bel_set ?_ (by first | exact Nat.le_refl _ | (simp; done) | (simp; omega) | omega) _) | with_reducible refine bel_grow ?_ _ | with_reducible refine Below.drew ?_ | with_reducible refine below_drewN ?_ _ | with_reducible refine bel_alloc ?_ _ | with_reducible refine bel_trans ?_ (by assumption))); done) | (repeat (first | exact Below.refl _ _ | assumption | refine below_drewN ?_ _ | refine bel_grow ?_ _ | refine Below.drew ?_ | refine bel_alloc ?_ _ | refine bel_set ?_ (by first | exact Nat.le_refl _ | (simp; done) | (simp; omega) | omega) _ | refine bel_trans ?_ (by assumption)))) hb_2
    clear t_
    have t_r := f_r.out
    have g_r : Blk w_2 (w.heap.size) 28 #[.bool false, .slice none 0 0, .slice none 0 0, .slice none 0 0] := by
      refine Blk.kept ?_ hb_2
      (repeat (first | with_reducible assumption | (with_reducible refine Blk.new' ?_; first | with_reducible rfl | (simp; done)) | with_reducible refine Blk.alloc ?_ _ | with_reducible refine Blk.grow ?_ _ | with_reducible refine Blk.drew ?_ | with_reducible refine Blk.drewN ?_ _ | (with_reducible refine Blk.far ?_ (by first | (dsimp only; omega) | (simp; omega)) _) | (with_reducible apply Blk.two) | (with_reducible refine Blk.set' ?_ _ _ ?_) | (with_reducible rfl) | rfl))
    have g_n : Blk w_2 ((Grow w_1 dr).heap.size) 28 #[.bool false, .slice none 0 0, .slice none 0 0, .slice none 0 0] := by
      refine Blk.kept ?_ hb_2
      (repeat (first | with_reducible assumption | (with_reducible refine Blk.new' ?_; first | with_reducible rfl | (simp; done)) | with_reducible refine Blk.alloc ?_ _ | with_reducible refine Blk.grow ?_ _ | with_reducible refine Blk.drew ?_ | with_reducible refine Blk.drewN ?_ _ | (with_reducible refine Blk.far ?_ (by first | (dsimp only; omega) | (simp; omega)) _) | (with_reducible apply Blk.two) | (with_reducible refine Blk.set' ?_ _ _ ?_) | (with_reducible rfl) | rfl))
    clear f_r r_l r_0 r_1 r_2 r_3 r_f0 r_f1 r_f2 r_f3 t_r hB_1 hb_2
    have f_r := g_r
    clear g_r
    have f_n := g_n
    clear g_n
    have r_0 : w_2.cell? ⟨w.heap.size, 0, none⟩ = some (.bool false) := (f_r).cell 0
    have r_1 : w_2.cell? ⟨w.heap.size, 1, none⟩ = some (.slice none 0 0) := (f_r).cell 1
    have r_2 : w_2.cell? ⟨w.heap.size, 2, none⟩ = some (.slice none 0 0) := (f_r).cell 2
    have r_3 : w_2.cell? ⟨w.heap.size, 3, none⟩ = some (.slice none 0 0) := (f_r).cell 3
    have r_f0 := (f_r).frozen 0
    have r_f1 := (f_r).frozen 1
    have r_f2 := (f_r).frozen 2
    have r_f3 := (f_r).frozen 3
    have r_l := (f_r).lt
    replace f_r := Lib.hid f_r
    have n_0 : w_2.cell? ⟨(Grow w_1 dr).heap.size, 0, none⟩ = some (.bool false) := (f_n).cell 0
    have n_1 : w_2.cell? ⟨(Grow w_1 dr).heap.size, 1, none⟩ = some (.slice none 0 0) := (f_n).cell 1
    have n_2 : w_2.cell? ⟨(Grow w_1 dr).heap.size, 2, none⟩ = some (.slice none 0 0) := (f_n).cell 2
    have n_3 : w_2.cell? ⟨(Grow w_1 dr).heap.size, 3, none⟩ = some (.slice none 0 0) := (f_n).cell 3
    have n_f0 := (f_n).frozen 0
    have n_f1 := (f_n).frozen 1
    have n_f2 := (f_n).frozen 2
    have n_f3 := (f_n).frozen 3
    have n_l := (f_n).lt
    replace f_n := Lib.hid f_n
    replace hB_2 := Lib.hid hB_2
    generalize (Grow w_1 dr).heap.size = g at *
    have hn1 : (w.heap.size = g) = False := by simp; omega
    have hn2 : (g = w.heap.size) = False := by simp; omega
    go_wp2_with fail
    have q4 := Blk.four f_n.out (.bool true) (.slice A1 N e1) (.slice A2 N e2) (.slice none 0 0)
    refine (HQ.out A1 A2 _ _ _ (hR2.out _ (((((Above.refl (g + 1) w_2).set (p := ⟨g, 0, none⟩) (by dsimp only; omega) _).set (p := ⟨g, 1, none⟩) (by dsimp only; omega) _).set (p := ⟨g, 2, none⟩) (by dsimp only; omega) _).set (p := ⟨g, 3, none⟩) (by dsimp only; omega) _))).mono ?_
    rintro e w_3 ⟨rfl, hb_3⟩
    have kb3 := Lib.hid hb_3
    have z_3 := hb_3.size
    try simp at z_3
    have t_ := hB_2.out
    have hB_3 := bel_eld (w := w) (X := _) (by first | ((repeat (first | with_reducible exact Below.refl _ _ | with_reducible assumption | (with_reducible refine bel_set ?_ (by first | exact Nat.le_refl _ | (simp; done) | (simp; omega) | omega) _) | with_reducible refine bel_grow ?_ _ | with_reducible refine Below.drew ?_ | with_reducible refine below_drewN ?_ _ | with_reducible refine bel_alloc ?_ _ | with_reducible refine bel_trans ?_ (by assumption))); done) | (repeat (first | exact Below.refl _ _ | assumption | refine below_drewN ?_ _ | refine bel_grow ?_ _ | refine Below.drew ?_ | refine bel_alloc ?_ _ | refine bel_set ?_ (by first | exact Nat.le_refl _ | (simp; done) | (simp; omega) | omega) _ | refine bel_trans ?_ (by assumption)))) hb_3
    clear t_
    have t_r := f_r.out
    have g_r : Blk w_3 (w.heap.size) 28 #[.bool false, .slice none 0 0, .slice none 0 0, .slice none 0 0] := by
      refine Blk.kept ?_ hb_3
      (repeat (first | with_reducible assumption | (with_reducible refine Blk.new' ?_; first | with_reducible rfl | (simp; done)) | with_reducible refine Blk.alloc ?_ _ | with_reducible refine Blk.grow ?_ _ | with_reducible refine Blk.drew ?_ | with_reducible refine Blk.drewN ?_ _ | (with_reducible refine Blk.far ?_ (by first | (dsimp only; omega) | (simp; omega)) _) | (with_reducible apply Blk.two) | (with_reducible refine Blk.set' ?_ _ _ ?_) | (with_reducible rfl) | rfl))
    have g_m : Blk w_3 (g) 28 #[.bool true, .slice A1 N e1, .slice A2 N e2, .slice none 0 0] := by
      refine Blk.kept ?_ hb_3
      (repeat (first | with_reducible assumption | (with_reducible refine Blk.new' ?_; first | with_reducible rfl | (simp; done)) | with_reducible refine Blk.alloc ?_ _ | with_reducible refine Blk.grow ?_ _ | with_reducible refine Blk.drew ?_ | with_reducible refine Blk.drewN ?_ _ | (with_reducible refine Blk.far ?_ (by first | (dsimp only; omega) | (simp; omega)) _) | (with_reducible apply Blk.two) | (with_reducible refine Blk.set' ?_ _ _ ?_) | (with_reducible rfl) | rfl))
    clear f_r r_l r_0 r_1 r_2 r_3 r_f0 r_f1 r_f2 r_f3 f_n n_l n_0 n_1 n_2 n_3 n_f0 n_f1 n_f2 n_f3 t_r hB_2 hb_3
    have f_r := g_r
    clear g_r
    have f_m := g_m
    clear g_m
    have r_0 : w_3.cell? ⟨w.heap.size, 0, none⟩ = some (.bool false) := (f_r).cell 0
    have r_1 : w_3.cell? ⟨w.heap.size, 1, none⟩ = some (.slice none 0 0) := (f_r).cell 1
    have r_2 : w_3.cell? ⟨w.heap.size, 2, none⟩ = some (.slice none 0 0) := (f_r).cell 2
    have r_3 : w_3.cell? ⟨w.heap.size, 3, none⟩ = some (.slice none 0 0) := (f_r).cell 3
    have r_f0 := (f_r).frozen 0
    have r_f1 := (f_r).frozen 1
    have r_f2 := (f_r).frozen 2
    have r_f3 := (f_r).frozen 3
    have r_l := (f_r).lt
    replace f_r := Lib.hid f_r
    have m_0 : w_3.cell? ⟨g, 0, none⟩ = some (.bool true) := (f_m).cell 0
    have m_1 : w_3.cell? ⟨g, 1, none⟩ = some (.slice A1 N e1) := (f_m).cell 1
    have m_2 : w_3.cell? ⟨g, 2, none⟩ = some (.slice A2 N e2) := (f_m).cell 2
    have m_3 : w_3.cell? ⟨g, 3, none⟩ = some (.slice none 0 0) := (f_m).cell 3
    have m_f0 := (f_m).frozen 0
    have m_f1 := (f_m).frozen 1
    have m_f2 := (f_m).frozen 2
    have m_f3 := (f_m).frozen 3
    have m_l := (f_m).lt
    replace f_m := Lib.hid f_m
    replace hB_3 := Lib.hid hB_3
    clear q4
    go_wp2_with fail
    refine abs_post (fun Y_ => Below w.heap.size w Y_ ∧ Blk Y_ w.heap.size 28 #[.bool false, .slice none 0 0, .slice none 0 0, .slice none 0 0]) ⟨by have t_B := hB_3.out; (repeat (first | with_reducible exact Below.refl _ _ | with_reducible assumption | (with_reducible refine bel_set ?_ (by first | exact Nat.le_refl _ | (simp; done) | (simp; omega) | omega) _) | with_reducible refine bel_grow ?_ _ | with_reducible refine Below.drew ?_ | with_reducible refine below_drewN ?_ _ | with_reducible refine bel_alloc ?_ _ | with_reducible refine bel_trans ?_ (by assumption))), Blk.four f_r.out _ _ _ _⟩ ?_
    rintro Y_ ⟨bZ_, gP_⟩
    have p_0 := gP_.cell 0
    have p_1 := gP_.cell 1
    have p_2 := gP_.cell 2
    have p_3 := gP_.cell 3
    have p_l := gP_.lt
    refine bodyPost_ret (v := .tuple #[.agg #[.bool false, .slice none 0 0, .slice none 0 0, .slice none 0 0], .int .i64 2]) (by simp [results, Try.results20, go_sem, p_0, p_1, p_2, p_3, p_l]) rfl ⟨rfl, bZ_⟩

set_option maxRecDepth 8000 in
set_option maxHeartbeats 4000000 in
theorem read_leaf_yes (B : Option Addr) (l c k v : Nat) (y : Nat → Int) (w : World) (hy : ∀ i, 0 ≤ y i ∧ y i < 256) (hk : 1 ≤ k ∧ k ≤ 24) (hv : v ≤ 108) (hl : 2 ≤ l ∧ l ≤ 500) (hlc : l ≤ c) (hc : c ≤ maxLen) (hs : SlIs w B l (yV y)) (hyes : l - 2 = cntY y * (k + v)) (hq : rightB (ndL k v y (cntY y)) k v = true) :
    Calls Try.prog 20 #[.int .u8 3, .slice B l c, .int .i64 k, .int .i64 v] w fun e w' => ∃ A1 e1 A2 e2, e = .returned (.tuple #[.agg #[.bool true, .slice A1 (cntY y) e1, .slice A2 (cntY y) e2, .slice none 0 0], .int .i64 0]) ∧ NdIs w' A1 A2 none (ndL k v y (cntY y)) ∧ Below w.heap.size w w' := by
  have HL := fun A m c' W (h : m = l - 2) (h2 : m ≤ c') (h3 : c' ≤ maxLen) (h4 : SlIs W A m (yV (shf y 2))) => leaf_yes A m c' (cntY y) k v (shf y 2) W (h.trans hyes) (by omega) hk hv h2 h3 h4
  simp only [shf_shf] at HL
  have hcb : cntY y ≤ 498 := by
    have : cntY y * 1 ≤ cntY y * (k + v) := Nat.mul_le_mul_left _ (by omega)
    omega
  have HQ := fun KA VA kc vc W (hN : RsIs W KA (cntY y) (fun _ => k) (fun i => shf y (2 + i * (k + v))) ∧ RsIs W VA (cntY y) (fun _ => v) (fun i => shf y (2 + (i * (k + v) + k)))) => right_any true KA VA none (cntY y) kc (cntY y) vc 0 0 (fun _ => k) (fun _ => v) (fun i => shf y (2 + i * (k + v))) (fun i => shf y (2 + (i * (k + v) + k))) (fun _ => 0) k v W ⟨hN.1, hN.2, SlIs.nil, by show cntY y ≤ 1000000; omega, by show cntY y ≤ 1000000; omega, by show 0 ≤ 1000000; omega⟩
  rw [show rightB ⟨true, cntY y, fun _ => k, fun i => shf y (2 + i * (k + v)), cntY y, fun _ => v, fun i => shf y (2 + (i * (k + v) + k)), 0, fun _ => 0⟩ (k : Int) (v : Int) = true from hq] at HQ
  replace HQ := Lib.hid HQ
  replace HL := Lib.hid HL
  clear hyes hq
  have HC := Lib.hid (fun w => caps_any (k : Int) (v : Int) w)
  have hb0 := Below.refl w.heap.size w
  have h1 : (capL (k : Int) (v : Int) == 0) = false := by simpa using capL_pos hk hv
  have h2 : decide ((l : Int) < 2) = false := decide_eq_false (by omega)
  have h3 : decide ((500 : Int) < (l : Int)) = false := decide_eq_false (by omega)
  obtain ⟨b, o, rfl, hbl, hcl⟩ := hs (by omega)
  have y0 : w.cell? ⟨b, o, none⟩ = some (.int .u8 (y 0)) := hcl 0 (by omega)
  have y1 : w.cell? ⟨b, o + 1, none⟩ = some (.int .u8 (y 1)) := hcl 1 (by omega)
  have yb0 := hy 0
  have yb1 := hy 1
  have hor := or2_cnt y hy
  have hN6 := cntY_lt y hy
  generalize cntY y = N at *
  replace hor := Lib.hid hor
  replace hy := Lib.hid hy
  replace hs := Lib.hid hs
  clear hcl
  generalize capL (k : Int) (v : Int) = cl at *
  generalize capI (k : Int) (v : Int) = ci at *
  unfold maxLen at hc
  by_cases hc2 : c = 2
  · obtain rfl : l = 2 := by omega
    subst hc2
    go_enter Try.func20, Try.ntmps20
    replace hb0 := Lib.hid hb0
    go_wp2_with fail
    refine (HC.out _).mono ?_
    rintro e w_1 ⟨rfl, hb_1⟩
    have z_1 := hb_1.size
    try simp at z_1
    have t_ := hb0.out
    have hB_1 := bel_eld (w := w) (X := _) (by first | ((repeat (first | with_reducible exact Below.refl _ _ | with_reducible assumption | (with_reducible refine bel_set ?_ (by first | exact Nat.le_refl _ | (simp; done) | (simp; omega) | omega) _) | with_reducible refine bel_grow ?_ _ | with_reducible refine Below.drew ?_ | with_reducible refine below_drewN ?_ _ | with_reducible refine bel_alloc ?_ _ | with_reducible refine bel_trans ?_ (by assumption))); done) | (repeat (first | exact Below.refl _ _ | assumption | refine below_drewN ?_ _ | refine bel_grow ?_ _ | refine Below.drew ?_ | refine bel_alloc ?_ _ | refine bel_set ?_ (by first | exact Nat.le_refl _ | (simp; done) | (simp; omega) | omega) _ | refine bel_trans ?_ (by assumption)))) hb_1
    clear t_
    have g_r : Blk w_1 (w.heap.size) 28 #[.bool false, .slice none 0 0, .slice none 0 0, .slice none 0 0] := by
      refine Blk.kept ?_ hb_1
      (repeat (first | with_reducible assumption | (with_reducible refine Blk.new' ?_; first | with_reducible rfl | (simp; done)) | with_reducible refine Blk.alloc ?_ _ | with_reducible refine Blk.grow ?_ _ | with_reducible refine Blk.drew ?_ | with_reducible refine Blk.drewN ?_ _ | (with_reducible refine Blk.far ?_ (by first | (dsimp only; omega) | (simp; omega)) _) | (with_reducible apply Blk.two) | (with_reducible refine Blk.set' ?_ _ _ ?_) | (with_reducible rfl) | rfl))
    clear hb0 hb_1
    have f_r := g_r
    clear g_r
    have r_0 : w_1.cell? ⟨w.heap.size, 0, none⟩ = some (.bool false) := (f_r).cell 0
    have r_1 : w_1.cell? ⟨w.heap.size, 1, none⟩ = some (.slice none 0 0) := (f_r).cell 1
    have r_2 : w_1.cell? ⟨w.heap.size, 2, none⟩ = some (.slice none 0 0) := (f_r).cell 2
    have r_3 : w_1.cell? ⟨w.heap.size, 3, none⟩ = some (.slice none 0 0) := (f_r).cell 3
    have r_f0 := (f_r).frozen 0
    have r_f1 := (f_r).frozen 1
    have r_f2 := (f_r).frozen 2
    have r_f3 := (f_r).frozen 3
    have r_l := (f_r).lt
    replace f_r := Lib.hid f_r
    replace hB_1 := Lib.hid hB_1
    have y0' := keepc hB_1.out y0
    have y1' := keepc hB_1.out y1
    have hb1' : b < w_1.heap.size := Nat.lt_of_lt_of_le hbl hB_1.out.size
    go_upto_region 4 with fail
    first | (with_reducible refine rgrow2 (by kernel_rfl) (by kernel_rfl) ?_) | (refine rgrow (by kernel_rfl) (by kernel_rfl) ?_)
    repeat (go_big_quiet_step ((fail)))
    refine wpQuiet_nil ?_
    intro dr
    go_wp2_with fail
    rw [hor.out]
    refine (HL.out _ _ _ _ (by omega) (by omega) (by unfold maxLen; omega) (by first | exact SlIs.nil | exact (SlIs.from2 hs.out).below (by have t_B := hB_1.out; (repeat (first | with_reducible exact Below.refl _ _ | with_reducible assumption | (with_reducible refine bel_set ?_ (by first | exact Nat.le_refl _ | (simp; done) | (simp; omega) | omega) _) | with_reducible refine bel_grow ?_ _ | with_reducible refine Below.drew ?_ | with_reducible refine below_drewN ?_ _ | with_reducible refine bel_alloc ?_ _ | with_reducible refine bel_trans ?_ (by assumption)))))).mono ?_
    rintro e w_2 ⟨A1, e1, A2, e2, rfl, hR, hb_2⟩
    have hwg : w.heap.size < (Grow w_1 dr).heap.size := Nat.lt_of_lt_of_le r_l (grow_size w_1 dr)
    have hR2 := Lib.hid (fun Z (hZ : Above ((Grow w_1 dr).heap.size + 1) w_2 Z) => hR Z (by simpa using hZ))
    clear hR
    have z_2 := hb_2.size
    try simp at z_2
    have t_ := hB_1.out
    have hB_2 := bel_eld (w := w) (X := _) (by first | ((repeat (first | with_reducible exact Below.refl _ _ | with_reducible assumption | (with_reducible refine bel_set ?_ (by first | exact Nat.le_refl _ | (simp; done) | (simp; omega) | omega) _) | with_reducible refine bel_grow ?_ _ | with_reducible refine Below.drew ?_ | with_reducible refine below_drewN ?_ _ | with_reducible refine bel_alloc ?_ _ | with_reducible refine bel_trans ?_ (by assumption))); done) | (repeat (first | exact Below.refl _ _ | assumption | refine below_drewN ?_ _ | refine bel_grow ?_ _ | refine Below.drew ?_ | refine bel_alloc ?_ _ | refine bel_set ?_ (by first | exact Nat.le_refl _ | (simp; done) | (simp; omega) | omega) _ | refine bel_trans ?_ (by assumption)))) hb_2
    clear t_
    have t_r := f_r.out
    have g_r : Blk w_2 (w.heap.size) 28 #[.bool false, .slice none 0 0, .slice none 0 0, .slice none 0 0] := by
      refine Blk.kept ?_ hb_2
      (repeat (first | with_reducible assumption | (with_reducible refine Blk.new' ?_; first | with_reducible rfl | (simp; done)) | with_reducible refine Blk.alloc ?_ _ | with_reducible refine Blk.grow ?_ _ | with_reducible refine Blk.drew ?_ | with_reducible refine Blk.drewN ?_ _ | (with_reducible refine Blk.far ?_ (by first | (dsimp only; omega) | (simp; omega)) _) | (with_reducible apply Blk.two) | (with_reducible refine Blk.set' ?_ _ _ ?_) | (with_reducible rfl) | rfl))
    have g_n : Blk w_2 ((Grow w_1 dr).heap.size) 28 #[.bool false, .slice none 0 0, .slice none 0 0, .slice none 0 0] := by
      refine Blk.kept ?_ hb_2
      (repeat (first | with_reducible assumption | (with_reducible refine Blk.new' ?_; first | with_reducible rfl | (simp; done)) | with_reducible refine Blk.alloc ?_ _ | with_reducible refine Blk.grow ?_ _ | with_reducible refine Blk.drew ?_ | with_reducible refine Blk.drewN ?_ _ | (with_reducible refine Blk.far ?_ (by first | (dsimp only; omega) | (simp; omega)) _) | (with_reducible apply Blk.two) | (with_reducible refine Blk.set' ?_ _ _ ?_) | (with_reducible rfl) | rfl))
    clear f_r r_l r_0 r_1 r_2 r_3 r_f0 r_f1 r_f2 r_f3 t_r hB_1 hb_2
    have f_r := g_r
    clear g_r
    have f_n := g_n
    clear g_n
    have r_0 : w_2.cell? ⟨w.heap.size, 0, none⟩ = some (.bool false) := (f_r).cell 0
    have r_1 : w_2.cell? ⟨w.heap.size, 1, none⟩ = some (.slice none 0 0) := (f_r).cell 1
    have r_2 : w_2.cell? ⟨w.heap.size, 2, none⟩ = some (.slice none 0 0) := (f_r).cell 2
    have r_3 : w_2.cell? ⟨w.heap.size, 3, none⟩ = some (.slice none 0 0) := (f_r).cell 3
    have r_f0 := (f_r).frozen 0
    have r_f1 := (f_r).frozen 1
    have r_f2 := (f_r).frozen 2
    have r_f3 := (f_r).frozen 3
    have r_l := (f_r).lt
    replace f_r := Lib.hid f_r
    have n_0 : w_2.cell? ⟨(Grow w_1 dr).heap.size, 0, none⟩ = some (.bool false) := (f_n).cell 0
    have n_1 : w_2.cell? ⟨(Grow w_1 dr).heap.size, 1, none⟩ = some (.slice none 0 0) := (f_n).cell 1
    have n_2 : w_2.cell? ⟨(Grow w_1 dr).heap.size, 2, none⟩ = some (.slice none 0 0) := (f_n).cell 2
    have n_3 : w_2.cell? ⟨(Grow w_1 dr).heap.size, 3, none⟩ = some (.slice none 0 0) := (f_n).cell 3
    have n_f0 := (f_n).frozen 0
    have n_f1 := (f_n).frozen 1
    have n_f2 := (f_n).frozen 2
    have n_f3 := (f_n).frozen 3
    have n_l := (f_n).lt
    replace f_n := Lib.hid f_n
    replace hB_2 := Lib.hid hB_2
    generalize (Grow w_1 dr).heap.size = g at *
    have hn1 : (w.heap.size = g) = False := by simp; omega
    have hn2 : (g = w.heap.size) = False := by simp; omega
    go_wp2_with fail
    have q4 := Blk.four f_n.out (.bool true) (.slice A1 N e1) (.slice A2 N e2) (.slice none 0 0)
    refine (HQ.out A1 A2 _ _ _ (hR2.out _ (((((Above.refl (g + 1) w_2).set (p := ⟨g, 0, none⟩) (by dsimp only; omega) _).set (p := ⟨g, 1, none⟩) (by dsimp only; omega) _).set (p := ⟨g, 2, none⟩) (by dsimp only; omega) _).set (p := ⟨g, 3, none⟩) (by dsimp only; omega) _))).mono ?_
    rintro e w_3 ⟨rfl, hb_3⟩
    have kb3 := Lib.hid hb_3
    have z_3 := hb_3.size
    try simp at z_3
    have t_ := hB_2.out
    have hB_3 := bel_eld (w := w) (X := _) (by first | ((repeat (first | with_reducible exact Below.refl _ _ | with_reducible assumption | (with_reducible refine bel_set ?_ (by first | exact Nat.le_refl _ | (simp; done) | (simp; omega) | omega) _) | with_reducible refine bel_grow ?_ _ | with_reducible refine Below.drew ?_ | with_reducible refine below_drewN ?_ _ | with_reducible refine bel_alloc ?_ _ | with_reducible refine bel_trans ?_ (by assumption))); done) | (repeat (first | exact Below.refl _ _ | assumption | refine below_drewN ?_ _ | refine bel_grow ?_ _ | refine Below.drew ?_ | refine bel_alloc ?_ _ | refine bel_set ?_ (by first | exact Nat.le_refl _ | (simp; done) | (simp; omega) | omega) _ | refine bel_trans ?_ (by assumption)))) hb_3
    clear t_
    have t_r := f_r.out
    have g_r : Blk w_3 (w.heap.size) 28 #[.bool false, .slice none 0 0, .slice none 0 0, .slice none 0 0] := by
      refine Blk.kept ?_ hb_3
      (repeat (first | with_reducible assumption | (with_reducible refine Blk.new' ?_; first | with_reducible rfl | (simp; done)) | with_reducible refine Blk.alloc ?_ _ | with_reducible refine Blk.grow ?_ _ | with_reducible refine Blk.drew ?_ | with_reducible refine Blk.drewN ?_ _ | (with_reducible refine Blk.far ?_ (by first | (dsimp only; omega) | (simp; omega)) _) | (with_reducible apply Blk.two) | (with_reducible refine Blk.set' ?_ _ _ ?_) | (with_reducible rfl) | rfl))
    have g_m : Blk w_3 (g) 28 #[.bool true, .slice A1 N e1, .slice A2 N e2, .slice none 0 0] := by
      refine Blk.kept ?_ hb_3
      (repeat (first | with_reducible assumption | (with_reducible refine Blk.new' ?_; first | with_reducible rfl | (simp; done)) | with_reducible refine Blk.alloc ?_ _ | with_reducible refine Blk.grow ?_ _ | with_reducible refine Blk.drew ?_ | with_reducible refine Blk.drewN ?_ _ | (with_reducible refine Blk.far ?_ (by first | (dsimp only; omega) | (simp; omega)) _) | (with_reducible apply Blk.two) | (with_reducible refine Blk.set' ?_ _ _ ?_) | (with_reducible rfl) | rfl))
    clear f_r r_l r_0 r_1 r_2 r_3 r_f0 r_f1 r_f2 r_f3 f_n n_l n_0 n_1 n_2 n_3 n_f0 n_f1 n_f2 n_f3 t_r hB_2 hb_3
    have f_r := g_r
    clear g_r
    have f_m := g_m
    clear g_m
    have r_0 : w_3.cell? ⟨w.heap.size, 0, none⟩ = some (.bool false) := (f_r).cell 0
    have r_1 : w_3.cell? ⟨w.heap.size, 1, none⟩ = some (.slice none 0 0) := (f_r).cell 1
    have r_2 : w_3.cell? ⟨w.heap.size, 2, none⟩ = some (.slice none 0 0) := (f_r).cell 2
    have r_3 : w_3.cell? ⟨w.heap.size, 3, none⟩ = some (.slice none 0 0) := (f_r).cell 3
    have r_f0 := (f_r).frozen 0
    have r_f1 := (f_r).frozen 1
    have r_f2 := (f_r).frozen 2
    have r_f3 := (f_r).frozen 3
    have r_l := (f_r).lt
    replace f_r := Lib.hid f_r
    have m_0 : w_3.cell? ⟨g, 0, none⟩ = some (.bool true) := (f_m).cell 0
    have m_1 : w_3.cell? ⟨g, 1, none⟩ = some (.slice A1 N e1) := (f_m).cell 1
    have m_2 : w_3.cell? ⟨g, 2, none⟩ = some (.slice A2 N e2) := (f_m).cell 2
    have m_3 : w_3.cell? ⟨g, 3, none⟩ = some (.slice none 0 0) := (f_m).cell 3
    have m_f0 := (f_m).frozen 0
    have m_f1 := (f_m).frozen 1
    have m_f2 := (f_m).frozen 2
    have m_f3 := (f_m).frozen 3
    have m_l := (f_m).lt
    replace f_m := Lib.hid f_m
    replace hB_3 := Lib.hid hB_3
    clear q4
    go_wp2_with fail
    refine abs_post (fun Y_ => Below w.heap.size w Y_ ∧ Blk Y_ w.heap.size 28 #[.bool true, .slice A1 N e1, .slice A2 N e2, .slice none 0 0] ∧ Above (g + 1) w_2 Y_) ⟨by have t_B := hB_3.out; (repeat (first | with_reducible exact Below.refl _ _ | with_reducible assumption | (with_reducible refine bel_set ?_ (by first | exact Nat.le_refl _ | (simp; done) | (simp; omega) | omega) _) | with_reducible refine bel_grow ?_ _ | with_reducible refine Below.drew ?_ | with_reducible refine below_drewN ?_ _ | with_reducible refine bel_alloc ?_ _ | with_reducible refine bel_trans ?_ (by assumption))), Blk.four f_r.out _ _ _ _, (((((((((Above.refl (g + 1) w_2).set (p := ⟨g, 0, none⟩) (by dsimp only; omega) _).set (p := ⟨g, 1, none⟩) (by dsimp only; omega) _).set (p := ⟨g, 2, none⟩) (by dsimp only; omega) _).set (p := ⟨g, 3, none⟩) (by dsimp only; omega) _).trans (Above.below kb3.out)).set (p := ⟨w.heap.size, 0, none⟩) (by dsimp only; omega) _).set (p := ⟨w.heap.size, 1, none⟩) (by dsimp only; omega) _).set (p := ⟨w.heap.size, 2, none⟩) (by dsimp only; omega) _).set (p := ⟨w.heap.size, 3, none⟩) (by dsimp only; omega) _⟩ ?_
    rintro Y_ ⟨bZ_, gP_, aZ_⟩
    have p_0 := gP_.cell 0
    have p_1 := gP_.cell 1
    have p_2 := gP_.cell 2
    have p_3 := gP_.cell 3
    have p_l := gP_.lt
    refine bodyPost_ret (v := .tuple #[.agg #[.bool true, .slice A1 N e1, .slice A2 N e2, .slice none 0 0], .int .i64 0]) (by simp [results, Try.results20, go_sem, p_0, p_1, p_2, p_3, p_l]) rfl ⟨A1, e1, A2, e2, rfl, ⟨(hR2.out _ aZ_).1, (hR2.out _ aZ_).2, SlIs.nil, by show N ≤ 1000000; omega, by show N ≤ 1000000; omega, by show 0 ≤ 1000000; omega⟩, bZ_⟩
  · have hc2' : ¬ (2 : Nat) = c := by omega
    have hc2i : ¬ (2 : Int) = (c : Int) := by omega
    go_enter Try.func20, Try.ntmps20
    replace hb0 := Lib.hid hb0
    go_wp2_with fail
    refine (HC.out _).mono ?_
    rintro e w_1 ⟨rfl, hb_1⟩
    have z_1 := hb_1.size
    try simp at z_1
    have t_ := hb0.out
    have hB_1 := bel_eld (w := w) (X := _) (by first | ((repeat (first | with_reducible exact Below.refl _ _ | with_reducible assumption | (with_reducible refine bel_set ?_ (by first | exact Nat.le_refl _ | (simp; done) | (simp; omega) | omega) _) | with_reducible refine bel_grow ?_ _ | with_reducible refine Below.drew ?_ | with_reducible refine below_drewN ?_ _ | with_reducible refine bel_alloc ?_ _ | with_reducible refine bel_trans ?_ (by assumption))); done) | (repeat (first | exact Below.refl _ _ | assumption | refine below_drewN ?_ _ | refine bel_grow ?_ _ | refine Below.drew ?_ | refine bel_alloc ?_ _ | refine bel_set ?_ (by first | exact Nat.le_refl _ | (simp; done) | (simp; omega) | omega) _ | refine bel_trans ?_ (by assumption)))) hb_1
    clear t_
    have g_r : Blk w_1 (w.heap.size) 28 #[.bool false, .slice none 0 0, .slice none 0 0, .slice none 0 0] := by
      refine Blk.kept ?_ hb_1
      (repeat (first | with_reducible assumption | (with_reducible refine Blk.new' ?_; first | with_reducible rfl | (simp; done)) | with_reducible refine Blk.alloc ?_ _ | with_reducible refine Blk.grow ?_ _ | with_reducible refine Blk.drew ?_ | with_reducible refine Blk.drewN ?_ _ | (with_reducible refine Blk.far ?_ (by first | (dsimp only; omega) | (simp; omega)) _) | (with_reducible apply Blk.two) | (with_reducible refine Blk.set' ?_ _ _ ?_) | (with_reducible rfl) | rfl))
    clear hb0 hb_1
    have f_r := g_r
    clear g_r
    have r_0 : w_1.cell? ⟨w.heap.size, 0, none⟩ = some (.bool false) := (f_r).cell 0
    have r_1 : w_1.cell? ⟨w.heap.size, 1, none⟩ = some (.slice none 0 0) := (f_r).cell 1
    have r_2 : w_1.cell? ⟨w.heap.size, 2, none⟩ = some (.slice none 0 0) := (f_r).cell 2
    have r_3 : w_1.cell? ⟨w.heap.size, 3, none⟩ = some (.slice none 0 0) := (f_r).cell 3
    have r_f0 := (f_r).frozen 0
    have r_f1 := (f_r).frozen 1
    have r_f2 := (f_r).frozen 2
    have r_f3 := (f_r).frozen 3
    have r_l := (f_r).lt
    replace f_r := Lib.hid f_r
    replace hB_1 := Lib.hid hB_1
    have y0' := keepc hB_1.out y0
    have y1' := keepc hB_1.out y1
    have hb1' : b < w_1.heap.size := Nat.lt_of_lt_of_le hbl hB_1.out.size
    go_upto_region 4 with fail
    first | (with_reducible refine rgrow2 (by kernel_rfl) (by kernel_rfl) ?_) | (refine rgrow (by kernel_rfl) (by kernel_rfl) ?_)
    repeat (go_big_quiet_step ((fail)))
    refine wpQuiet_nil ?_
    intro dr
    go_wp2_with fail
    rw [hor.out]
    refine (HL.out _ _ _ _ (by omega) (by omega) (by unfold maxLen; omega) (by first | exact SlIs.nil | exact (SlIs.from2 hs.out).below (by have t_B := hB_1.out; (repeat (first | with_reducible exact Below.refl _ _ | with_reducible assumption | (with_reducible refine bel_set ?_ (by first | exact Nat.le_refl _ | (simp; done) | (simp; omega) | omega) _) | with_reducible refine bel_grow ?_ _ | with_reducible refine Below.drew ?_ | with_reducible refine below_drewN ?_ _ | with_reducible refine bel_alloc ?_ _ | with_reducible refine bel_trans ?_ (by assumption)))))).mono ?_
    rintro e w_2 ⟨A1, e1, A2, e2, rfl, hR, hb_2⟩
    have hwg : w.heap.size < (Grow w_1 dr).heap.size := Nat.lt_of_lt_of_le r_l (grow_size w_1 dr)
    have hR2 := Lib.hid (fun Z (hZ : Above ((Grow w_1 dr).heap.size + 1) w_2 Z) => hR Z (by simpa using hZ))
    clear hR
    have z_2 := hb_2.size
    try simp at z_2
    have t_ := hB_1.out
    have hB_2 := bel_eld (w := w) (X := _) (by first | ((repeat (first | with_reducible exact Below.refl _ _ | with_reducible assumption | (with_reducible refine bel_set ?_ (by first | exact Nat.le_refl _ | (simp; done) | (simp; omega) | omega) _) | with_reducible refine bel_grow ?_ _ | with_reducible refine Below.drew ?_ | with_reducible refine below_drewN ?_ _ | with_reducible refine bel_alloc ?_ _ | with_reducible refine bel_trans ?_ (by assumption))); done) | (repeat (first | exact Below.refl _ _ | assumption | refine below_drewN ?_ _ | refine bel_grow ?_ _ | refine Below.drew ?_ | refine bel_alloc ?_ _ | refine bel_set ?_ (by first | exact Nat.le_refl _ | (simp; done) | (simp; omega) | omega) _ | refine bel_trans ?_ (by assumption)))) hb_2
    clear t_
    have t_r := f_r.out
    have g_r : Blk w_2 (w.heap.size) 28 #[.bool false, .slice none 0 0, .slice none 0 0, .slice none 0 0] := by
      refine Blk.kept ?_ hb_2
      (repeat (first | with_reducible assumption | (with_reducible refine Blk.new' ?_; first | with_reducible rfl | (simp; done)) | with_reducible refine Blk.alloc ?_ _ | with_reducible refine Blk.grow ?_ _ | with_reducible refine Blk.drew ?_ | with_reducible refine Blk.drewN ?_ _ | (with_reducible refine Blk.far ?_ (by first | (dsimp only; omega) | (simp; omega)) _) | (with_reducible apply Blk.two) | (with_reducible refine Blk.set' ?_ _ _ ?_) | (with_reducible rfl) | rfl))
    have g_n : Blk w_2 ((Grow w_1 dr).heap.size) 28 #[.bool false, .slice none 0 0, .slice none 0 0, .slice none 0 0] := by
      refine Blk.kept ?_ hb_2
      (repeat (first | with_reducible assumption | (with_reducible refine Blk.new' ?_; first | with_reducible rfl | (simp; done)) | with_reducible refine Blk.alloc ?_ _ | with_reducible refine Blk.grow ?_ _ | with_reducible refine Blk.drew ?_ | with_reducible refine Blk.drewN ?_ _ | (with_reducible refine Blk.far ?_ (by first | (dsimp only; omega) | (simp; omega)) _) | (with_reducible apply Blk.two) | (with_reducible refine Blk.set' ?_ _ _ ?_) | (with_reducible rfl) | rfl))
    clear f_r r_l r_0 r_1 r_2 r_3 r_f0 r_f1 r_f2 r_f3 t_r hB_1 hb_2
    have f_r := g_r
    clear g_r
    have f_n := g_n
    clear g_n
    have r_0 : w_2.cell? ⟨w.heap.size, 0, none⟩ = some (.bool false) := (f_r).cell 0
    have r_1 : w_2.cell? ⟨w.heap.size, 1, none⟩ = some (.slice none 0 0) := (f_r).cell 1
    have r_2 : w_2.cell? ⟨w.heap.size, 2, none⟩ = some (.slice none 0 0) := (f_r).cell 2
    have r_3 : w_2.cell? ⟨w.heap.size, 3, none⟩ = some (.slice none 0 0) := (f_r).cell 3
    have r_f0 := (f_r).frozen 0
    have r_f1 := (f_r).frozen 1
    have r_f2 := (f_r).frozen 2
    have r_f3 := (f_r).frozen 3
    have r_l := (f_r).lt
    replace f_r := Lib.hid f_r
    have n_0 : w_2.cell? ⟨(Grow w_1 dr).heap.size, 0, none⟩ = some (.bool false) := (f_n).cell 0
    have n_1 : w_2.cell? ⟨(Grow w_1 dr).heap.size, 1, none⟩ = some (.slice none 0 0) := (f_n).cell 1
    have n_2 : w_2.cell? ⟨(Grow w_1 dr).heap.size, 2, none⟩ = some (.slice none 0 0) := (f_n).cell 2
    have n_3 : w_2.cell? ⟨(Grow w_1 dr).heap.size, 3, none⟩ = some (.slice none 0 0) := (f_n).cell 3
    have n_f0 := (f_n).frozen 0
    have n_f1 := (f_n).frozen 1
    have n_f2 := (f_n).frozen 2
    have n_f3 := (f_n).frozen 3
    have n_l := (f_n).lt
    replace f_n := Lib.hid f_n
    replace hB_2 := Lib.hid hB_2
    generalize (Grow w_1 dr).heap.size = g at *
    have hn1 : (w.heap.size = g) = False := by simp; omega
    have hn2 : (g = w.heap.size) = False := by simp; omega
    go_wp2_with fail
    have q4 := Blk.four f_n.out (.bool true) (.slice A1 N e1) (.slice A2 N e2) (.slice none 0 0)
    refine (HQ.out A1 A2 _ _ _ (hR2.out _ (((((Above.refl (g + 1) w_2).set (p := ⟨g, 0, none⟩) (by dsimp only; omega) _).set (p := ⟨g, 1, none⟩) (by dsimp only; omega) _).set (p := ⟨g, 2, none⟩) (by dsimp only; omega) _).set (p := ⟨g, 3, none⟩) (by dsimp only; omega) _))).mono ?_
    rintro e w_3 ⟨rfl, hb_3⟩
    have kb3 := Lib.hid hb_3
    have z_3 := hb_3.size
    try simp at z_3
    have t_ := hB_2.out
    have hB_3 := bel_eld (w := w) (X := _) (by first | ((repeat (first | with_reducible exact Below.refl _ _ | with_reducible assumption | (with_reducible refine bel_set ?_ (by first | exact Nat.le_refl _ | (simp; done) | (simp; omega) | omega) _) | with_reducible refine bel_grow ?_ _ | with_reducible refine Below.drew ?_ | with_reducible refine below_drewN ?_ _ | with_reducible refine bel_alloc ?_ _ | with_reducible refine bel_trans ?_ (by assumption))); done) | (repeat (first | exact Below.refl _ _ | assumption | refine below_drewN ?_ _ | refine bel_grow ?_ _ | refine Below.drew ?_ | refine bel_alloc ?_ _ | refine bel_set ?_ (by first | exact Nat.le_refl _ | (simp; done) | (simp; omega) | omega) _ | refine bel_trans ?_ (by assumption)))) hb_3
    clear t_
    have t_r := f_r.out
    have g_r : Blk w_3 (w.heap.size) 28 #[.bool false, .slice none 0 0, .slice none 0 0, .slice none 0 0] := by
      refine Blk.kept ?_ hb_3
      (repeat (first | with_reducible assumption | (with_reducible refine Blk.new' ?_; first | with_reducible rfl | (simp; done)) | with_reducible refine Blk.alloc ?_ _ | with_reducible refine Blk.grow ?_ _ | with_reducible refine Blk.drew ?_ | with_reducible refine Blk.drewN ?_ _ | (with_reducible refine Blk.far ?_ (by first | (dsimp only; omega) | (simp; omega)) _) | (with_reducible apply Blk.two) | (with_reducible refine Blk.set' ?_ _ _ ?_) | (with_reducible rfl) | rfl))
    have g_m : Blk w_3 (g) 28 #[.bool true, .slice A1 N e1, .slice A2 N e2, .slice none 0 0] := by
      refine Blk.kept ?_ hb_3
      (repeat (first | with_reducible assumption | (with_reducible refine Blk.new' ?_; first | with_reducible rfl | (simp; done)) | with_reducible refine Blk.alloc ?_ _ | with_reducible refine Blk.grow ?_ _ | with_reducible refine Blk.drew ?_ | with_reducible refine Blk.drewN ?_ _ | (with_reducible refine Blk.far ?_ (by first | (dsimp only; omega) | (simp; omega)) _) | (with_reducible apply Blk.two) | (with_reducible refine Blk.set' ?_ _ _ ?_) | (with_reducible rfl) | rfl))
    clear f_r r_l r_0 r_1 r_2 r_3 r_f0 r_f1 r_f2 r_f3 f_n n_l n_0 n_1 n_2 n_3 n_f0 n_f1 n_f2 n_f3 t_r hB_2 hb_3
    have f_r := g_r
    clear g_r
    have f_m := g_m
    clear g_m
    have r_0 : w_3.cell? ⟨w.heap.size, 0, none⟩ = some (.bool false) := (f_r).cell 0
    have r_1 : w_3.cell? ⟨w.heap.size, 1, none⟩ = some (.slice none 0 0) := (f_r).cell 1
    have r_2 : w_3.cell? ⟨w.heap.size, 2, none⟩ = some (.slice none 0 0) := (f_r).cell 2
    have r_3 : w_3.cell? ⟨w.heap.size, 3, none⟩ = some (.slice none 0 0) := (f_r).cell 3
    have r_f0 := (f_r).frozen 0
    have r_f1 := (f_r).frozen 1
    have r_f2 := (f_r).frozen 2
    have r_f3 := (f_r).frozen 3
    have r_l := (f_r).lt
    replace f_r := Lib.hid f_r
    have m_0 : w_3.cell? ⟨g, 0, none⟩ = some (.bool true) := (f_m).cell 0
    have m_1 : w_3.cell? ⟨g, 1, none⟩ = some (.slice A1 N e1) := (f_m).cell 1
    have m_2 : w_3.cell? ⟨g, 2, none⟩ = some (.slice A2 N e2) := (f_m).cell 2
    have m_3 : w_3.cell? ⟨g, 3, none⟩ = some (.slice none 0 0) := (f_m).cell 3
    have m_f0 := (f_m).frozen 0
    have m_f1 := (f_m).frozen 1
    have m_f2 := (f_m).frozen 2
    have m_f3 := (f_m).frozen 3
    have m_l := (f_m).lt
    replace f_m := Lib.hid f_m
    replace hB_3 := Lib.hid hB_3
    clear q4
    go_wp2_with fail
    refine abs_post (fun Y_ => Below w.heap.size w Y_ ∧ Blk Y_ w.heap.size 28 #[.bool true, .slice A1 N e1, .slice A2 N e2, .slice none 0 0] ∧ Above (g + 1) w_2 Y_) ⟨by have t_B := hB_3.out; (repeat (first | with_reducible exact Below.refl _ _ | with_reducible assumption | (with_reducible refine bel_set ?_ (by first | exact Nat.le_refl _ | (simp; done) | (simp; omega) | omega) _) | with_reducible refine bel_grow ?_ _ | with_reducible refine Below.drew ?_ | with_reducible refine below_drewN ?_ _ | with_reducible refine bel_alloc ?_ _ | with_reducible refine bel_trans ?_ (by assumption))), Blk.four f_r.out _ _ _ _, (((((((((Above.refl (g + 1) w_2).set (p := ⟨g, 0, none⟩) (by dsimp only; omega) _).set (p := ⟨g, 1, none⟩) (by dsimp only; omega) _).set (p := ⟨g, 2, none⟩) (by dsimp only; omega) _).set (p := ⟨g, 3, none⟩) (by dsimp only; omega) _).trans (Above.below kb3.out)).set (p := ⟨w.heap.size, 0, none⟩) (by dsimp only; omega) _).set (p := ⟨w.heap.size, 1, none⟩) (by dsimp only; omega) _).set (p := ⟨w.heap.size, 2, none⟩) (by dsimp only; omega) _).set (p := ⟨w.heap.size, 3, none⟩) (by dsimp only; omega) _⟩ ?_
    rintro Y_ ⟨bZ_, gP_, aZ_⟩
    have p_0 := gP_.cell 0
    have p_1 := gP_.cell 1
    have p_2 := gP_.cell 2
    have p_3 := gP_.cell 3
    have p_l := gP_.lt
    refine bodyPost_ret (v := .tuple #[.agg #[.bool true, .slice A1 N e1, .slice A2 N e2, .slice none 0 0], .int .i64 0]) (by simp [results, Try.results20, go_sem, p_0, p_1, p_2, p_3, p_l]) rfl ⟨A1, e1, A2, e2, rfl, ⟨(hR2.out _ aZ_).1, (hR2.out _ aZ_).2, SlIs.nil, by show N ≤ 1000000; omega, by show N ≤ 1000000; omega, by show 0 ≤ 1000000; omega⟩, bZ_⟩

set_option maxRecDepth 8000 in
set_option maxHeartbeats 4000000 in
theorem read_inner_none (B : Option Addr) (l c k v : Nat) (y : Nat → Int) (w : World) (hy : ∀ i, 0 ≤ y i ∧ y i < 256) (hk : 1 ≤ k ∧ k ≤ 24) (hv : v ≤ 108) (hl : 2 ≤ l ∧ l ≤ 500) (hlc : l ≤ c) (hc : c ≤ maxLen) (hs : SlIs w B l (yV y)) (h0 : cntY y = 0) :
    Calls Try.prog 20 #[.int .u8 4, .slice B l c, .int .i64 k, .int .i64 v] w fun e w' => e = .returned (.tuple #[.agg #[.bool false, .slice none 0 0, .slice none 0 0, .slice none 0 0], .int .i64 2]) ∧ Below w.heap.size w w' := by
  have HL := Lib.hid (fun A m c' W (h : m = l - 2) => inner_none A m c' k W)
  have HC := Lib.hid (fun w => caps_any (k : Int) (v : Int) w)
  have hb0 := Below.refl w.heap.size w
  have h1 : (capL (k : Int) (v : Int) == 0) = false := by simpa using capL_pos hk hv
  have h2 : decide ((l : Int) < 2) = false := decide_eq_false (by omega)
  have h3 : decide ((500 : Int) < (l : Int)) = false := decide_eq_false (by omega)
  obtain ⟨b, o, rfl, hbl, hcl⟩ := hs (by omega)
  have y0 : w.cell? ⟨b, o, none⟩ = some (.int .u8 (y 0)) := hcl 0 (by omega)
  have y1 : w.cell? ⟨b, o + 1, none⟩ = some (.int .u8 (y 1)) := hcl 1 (by omega)
  have yb0 := hy 0
  have yb1 := hy 1
  have hor := or2_cnt y hy
  have hN6 := cntY_lt y hy
  generalize cntY y = N at *
  replace hor := Lib.hid hor
  replace hy := Lib.hid hy
  replace hs := Lib.hid hs
  clear hcl
  generalize capL (k : Int) (v : Int) = cl at *
  generalize capI (k : Int) (v : Int) = ci at *
  unfold maxLen at hc
  rw [h0] at hor
  clear h0
  by_cases hc2 : c = 2
  · obtain rfl : l = 2 := by omega
    subst hc2
    go_enter Try.func20, Try.ntmps20
    replace hb0 := Lib.hid hb0
    go_wp2_with fail
    refine (HC.out _).mono ?_
    rintro e w_1 ⟨rfl, hb_1⟩
    have z_1 := hb_1.size
    try simp at z_1
    have t_ := hb0.out
    have hB_1 := bel_eld (w := w) (X := _) (by first | ((repeat (first | with_reducible exact Below.refl _ _ | with_reducible assumption | (with_reducible refine bel_set ?_ (by first | exact Nat.le_refl _ | (simp; done) | (simp; omega) | omega) _) | with_reducible refine bel_grow ?_ _ | with_reducible refine Below.drew ?_ | with_reducible refine below_drewN ?_ _ | with_reducible refine bel_alloc ?_ _ | with_reducible refine bel_trans ?_ (by assumption))); done) | (repeat (first | exact Below.refl _ _ | assumption | refine below_drewN ?_ _ | refine bel_grow ?_ _ | refine Below.drew ?_ | refine bel_alloc ?_ _ | refine bel_set ?_ (by first | exact Nat.le_refl _ | (simp; done) | (simp; omega) | omega) _ | refine bel_trans ?_ (by assumption)))) hb_1
    clear t_
    have g_r : Blk w_1 (w.heap.size) 28 #[.bool false, .slice none 0 0, .slice none 0 0, .slice none 0 0] := by
      refine Blk.kept ?_ hb_1
      (repeat (first | with_reducible assumption | (with_reducible refine Blk.new' ?_; first | with_reducible rfl | (simp; done)) | with_reducible refine Blk.alloc ?_ _ | with_reducible refine Blk.grow ?_ _ | with_reducible refine Blk.drew ?_ | with_reducible refine Blk.drewN ?_ _ | (with_reducible refine Blk.far ?_ (by first | (dsimp only; omega) | (simp; omega)) _) | (with_reducible apply Blk.two) | (with_reducible refine Blk.set' ?_ _ _ ?_) | (with_reducible rfl) | rfl))
    clear hb0 hb_1
    have f_r := g_r
    clear g_r
    have r_0 : w_1.cell? ⟨w.heap.size, 0, none⟩ = some (.bool false) := (f_r).cell 0
    have r_1 : w_1.cell? ⟨w.heap.size, 1, none⟩ = some (.slice none 0 0) := (f_r).cell 1
    have r_2 : w_1.cell? ⟨w.heap.size, 2, none⟩ = some (.slice none 0 0) := (f_r).cell 2
    have r_3 : w_1.cell? ⟨w.heap.size, 3, none⟩ = some (.slice none 0 0) := (f_r).cell 3
    have r_f0 := (f_r).frozen 0
    have r_f1 := (f_r).frozen 1
    have r_f2 := (f_r).frozen 2
    have r_f3 := (f_r).frozen 3
    have r_l := (f_r).lt
    replace f_r := Lib.hid f_r
    replace hB_1 := Lib.hid hB_1
    have y0' := keepc hB_1.out y0
    have y1' := keepc hB_1.out y1
    have hb1' : b < w_1.heap.size := Nat.lt_of_lt_of_le hbl hB_1.out.size
    go_upto_region 4 with fail
    first | (with_reducible refine rgrow2 (by kernel_rfl) (by kernel_rfl) ?_) | (refine rgrow (by kernel_rfl) (by kernel_rfl) ?_)
    repeat (go_big_quiet_step ((fail)))
    refine wpQuiet_nil ?_
    intro dr
    go_wp2_with fail
    rw [hor.out]
    refine (HL.out _ _ _ _ (by omega)).mono ?_
    rintro e w_2 ⟨rfl, hb_2⟩
    have hwg : w.heap.size < (Grow w_1 dr).heap.size := Nat.lt_of_lt_of_le r_l (grow_size w_1 dr)
    have z_2 := hb_2.size
    try simp at z_2
    have t_ := hB_1.out
    have hB_2 := bel_eld (w := w) (X := _) (by first | ((repeat (first | with_reducible exact Below.refl _ _ | with_reducible assumption | (with_reducible refine bel_set ?_ (by first | exact Nat.le_refl _ | (simp; done) | (simp; omega) | omega) _) | with_reducible refine bel_grow ?_ _ | with_reducible refine Below.drew ?_ | with_reducible refine below_drewN ?_ _ | with_reducible refine bel_alloc ?_ _ | with_reducible refine bel_trans ?_ (by assumption))); done) | (repeat (first | exact Below.refl _ _ | assumption | refine below_drewN ?_ _ | refine bel_grow ?_ _ | refine Below.drew ?_ | refine bel_alloc ?_ _ | refine bel_set ?_ (by first | exact Nat.le_refl _ | (simp; done) | (simp; omega) | omega) _ | refine bel_trans ?_ (by assumption)))) hb_2
    clear t_
    have t_r := f_r.out
    have g_r : Blk w_2 (w.heap.size) 28 #[.bool false, .slice none 0 0, .slice none 0 0, .slice none 0 0] := by
      refine Blk.kept ?_ hb_2
      (repeat (first | with_reducible assumption | (with_reducible refine Blk.new' ?_; first | with_reducible rfl | (simp; done)) | with_reducible refine Blk.alloc ?_ _ | with_reducible refine Blk.grow ?_ _ | with_reducible refine Blk.drew ?_ | with_reducible refine Blk.drewN ?_ _ | (with_reducible refine Blk.far ?_ (by first | (dsimp only; omega) | (simp; omega)) _) | (with_reducible apply Blk.two) | (with_reducible refine Blk.set' ?_ _ _ ?_) | (with_reducible rfl) | rfl))
    have g_n : Blk w_2 ((Grow w_1 dr).heap.size) 28 #[.bool false, .slice none 0 0, .slice none 0 0, .slice none 0 0] := by
      refine Blk.kept ?_ hb_2
      (repeat (first | with_reducible assumption | (with_reducible refine Blk.new' ?_; first | with_reducible rfl | (simp; done)) | with_reducible refine Blk.alloc ?_ _ | with_reducible refine Blk.grow ?_ _ | with_reducible refine Blk.drew ?_ | with_reducible refine Blk.drewN ?_ _ | (with_reducible refine Blk.far ?_ (by first | (dsimp only; omega) | (simp; omega)) _) | (with_reducible apply Blk.two) | (with_reducible refine Blk.set' ?_ _ _ ?_) | (with_reducible rfl) | rfl))
    clear f_r r_l r_0 r_1 r_2 r_3 r_f0 r_f1 r_f2 r_f3 t_r hB_1 hb_2
    have f_r := g_r
    clear g_r
    have f_n := g_n
    clear g_n
    have r_0 : w_2.cell? ⟨w.heap.size, 0, none⟩ = some (.bool false) := (f_r).cell 0
    have r_1 : w_2.cell? ⟨w.heap.size, 1, none⟩ = some (.slice none 0 0) := (f_r).cell 1
    have r_2 : w_2.cell? ⟨w.heap.size, 2, none⟩ = some (.slice none 0 0) := (f_r).cell 2
    have r_3 : w_2.cell? ⟨w.heap.size, 3, none⟩ = some (.slice none 0 0) := (f_r).cell 3
    have r_f0 := (f_r).frozen 0
    have r_f1 := (f_r).frozen 1
    have r_f2 := (f_r).frozen 2
    have r_f3 := (f_r).frozen 3
    have r_l := (f_r).lt
    replace f_r := Lib.hid f_r
    have n_0 : w_2.cell? ⟨(Grow w_1 dr).heap.size, 0, none⟩ = some (.bool false) := (f_n).cell 0
    have n_1 : w_2.cell? ⟨(Grow w_1 dr).heap.size, 1, none⟩ = some (.slice none 0 0) := (f_n).cell 1
    have n_2 : w_2.cell? ⟨(Grow w_1 dr).heap.size, 2, none⟩ = some (.slice none 0 0) := (f_n).cell 2
    have n_3 : w_2.cell? ⟨(Grow w_1 dr).heap.size, 3, none⟩ = some (.slice none 0 0) := (f_n).cell 3
    have n_f0 := (f_n).frozen 0
    have n_f1 := (f_n).frozen 1
    have n_f2 := (f_n).frozen 2
    have n_f3 := (f_n).frozen 3
    have n_l := (f_n).lt
    replace f_n := Lib.hid f_n
    replace hB_2 := Lib.hid hB_2
    generalize (Grow w_1 dr).heap.size = g at *
    have hn1 : (w.heap.size = g) = False := by simp; omega
    have hn2 : (g = w.heap.size) = False := by simp; omega
    go_wp2_with fail
    refine abs_post (fun Y_ => Below w.heap.size w Y_ ∧ Blk Y_ w.heap.size 28 #[.bool false, .slice none 0 0, .slice none 0 0, .slice none 0 0]) ⟨by have t_B := hB_2.out; (repeat (first | with_reducible exact Below.refl _ _ | with_reducible assumption | (with_reducible refine bel_set ?_ (by first | exact Nat.le_refl _ | (simp; done) | (simp; omega) | omega) _) | with_reducible refine bel_grow ?_ _ | with_reducible refine Below.drew ?_ | with_reducible refine below_drewN ?_ _ | with_reducible refine bel_alloc ?_ _ | with_reducible refine bel_trans ?_ (by assumption))), Blk.four (Blk.far (Blk.far (Blk.far (Blk.far f_r.out (by have := r_l; dsimp only; omega) _) (by have := r_l; dsimp only; omega) _) (by have := r_l; dsimp only; omega) _) (by have := r_l; dsimp only; omega) _) _ _ _ _⟩ ?_
    rintro Y_ ⟨bZ_, gP_⟩
    have p_0 := gP_.cell 0
    have p_1 := gP_.cell 1
    have p_2 := gP_.cell 2
    have p_3 := gP_.cell 3
    have p_l := gP_.lt
    refine bodyPost_ret (v := .tuple #[.agg #[.bool false, .slice none 0 0, .slice none 0 0, .slice none 0 0], .int .i64 2]) (by simp [results, Try.results20, go_sem, p_0, p_1, p_2, p_3, p_l]) rfl ⟨rfl, bZ_⟩
  · have hc2' : ¬ (2 : Nat) = c := by omega
    have hc2i : ¬ (2 : Int) = (c : Int) := by omega
    go_enter Try.func20, Try.ntmps20
    replace hb0 := Lib.hid hb0
    go_wp2_with fail
    refine (HC.out _).mono ?_
    rintro e w_1 ⟨rfl, hb_1⟩
    have z_1 := hb_1.size
    try simp at z_1
    have t_ := hb0.out
    have hB_1 := bel_eld (w := w) (X := _) (by first | ((repeat (first | with_reducible exact Below.refl _ _ | with_reducible assumption | (with_reducible refine bel_set ?_ (by first | exact Nat.le_refl _ | (simp; done) | (simp; omega) | omega) _) | with_reducible refine bel_grow ?_ _ | with_reducible refine Below.drew ?_ | with_reducible refine below_drewN ?_ _ | with_reducible refine bel_alloc ?_ _ | with_reducible refine bel_trans ?_ (by assumption))); done) | (repeat (first | exact Below.refl _ _ | assumption | refine below_drewN ?_ _ | refine bel_grow ?_ _ | refine Below.drew ?_ | refine bel_alloc ?_ _ | refine bel_set ?_ (by first | exact Nat.le_refl _ | (simp; done) | (simp; omega) | omega) _ | refine bel_trans ?_ (by assumption)))) hb_1
    clear t_
    have g_r : Blk w_1 (w.heap.size) 28 #[.bool false, .slice none 0 0, .slice none 0 0, .slice none 0 0] := by
      refine Blk.kept ?_ hb_1
      (repeat (first | with_reducible assumption | (with_reducible refine Blk.new' ?_; first | with_reducible rfl | (simp; done)) | with_reducible refine Blk.alloc ?_ _ | with_reducible refine Blk.grow ?_ _ | with_reducible refine Blk.drew ?_ | with_reducible refine Blk.drewN ?_ _ | (with_reducible refine Blk.far ?_ (by first | (dsimp only; omega) | (simp; omega)) _) | (with_reducible apply Blk.two) | (with_reducible refine Blk.set' ?_ _ _ ?_) | (with_reducible rfl) | rfl))
    clear hb0 hb_1
    have f_r := g_r
    clear g_r
    have r_0 : w_1.cell? ⟨w.heap.size, 0, none⟩ = some (.bool false) := (f_r).cell 0
    have r_1 : w_1.cell? ⟨w.heap.size, 1, none⟩ = some (.slice none 0 0) := (f_r).cell 1
    have r_2 : w_1.cell? ⟨w.heap.size, 2, none⟩ = some (.slice none 0 0) := (f_r).cell 2
    have r_3 : w_1.cell? ⟨w.heap.size, 3, none⟩ = some (.slice none 0 0) := (f_r).cell 3
    have r_f0 := (f_r).frozen 0
    have r_f1 := (f_r).frozen 1
    have r_f2 := (f_r).frozen 2
    have r_f3 := (f_r).frozen 3
    have r_l := (f_r).lt
    replace f_r := Lib.hid f_r
    replace hB_1 := Lib.hid hB_1
    have y0' := keepc hB_1.out y0
    have y1' := keepc hB_1.out y1
    have hb1' : b < w_1.heap.size := Nat.lt_of_lt_of_le hbl hB_1.out.size
    go_upto_region 4 with fail
    first | (with_reducible refine rgrow2 (by kernel_rfl) (by kernel_rfl) ?_) | (refine rgrow (by kernel_rfl) (by kernel_rfl) ?_)
    repeat (go_big_quiet_step ((fail)))
    refine wpQuiet_nil ?_
    intro dr
    go_wp2_with fail
    rw [hor.out]
    refine (HL.out _ _ _ _ (by omega)).mono ?_
    rintro e w_2 ⟨rfl, hb_2⟩
    have hwg : w.heap.size < (Grow w_1 dr).heap.size := Nat.lt_of_lt_of_le r_l (grow_size w_1 dr)
    have z_2 := hb_2.size
    try simp at z_2
    have t_ := hB_1.out
    have hB_2 := bel_eld (w := w) (X := _) (by first | ((repeat (first | with_reducible exact Below.refl _ _ | with_reducible assumption | (with_reducible refine bel_set ?_ (by first | exact Nat.le_refl _ | (simp; done) | (simp; omega) | omega) _) | with_reducible refine bel_grow ?_ _ | with_reducible refine Below.drew ?_ | with_reducible refine below_drewN ?_ _ | with_reducible refine bel_alloc ?_ _ | with_reducible refine bel_trans ?_ (by assumption))); done) | (repeat (first | exact Below.refl _ _ | assumption | refine below_drewN ?_ _ | refine bel_grow ?_ _ | refine Below.drew ?_ | refine bel_alloc ?_ _ | refine bel_set ?_ (by first | exact Nat.le_refl _ | (simp; done) | (simp; omega) | omega) _ | refine bel_trans ?_ (by assumption)))) hb_2
    clear t_
    have t_r := f_r.out
    have g_r : Blk w_2 (w.heap.size) 28 #[.bool false, .slice none 0 0, .slice none 0 0, .slice none 0 0] := by
      refine Blk.kept ?_ hb_2
      (repeat (first | with_reducible assumption | (with_reducible refine Blk.new' ?_; first | with_reducible rfl | (simp; done)) | with_reducible refine Blk.alloc ?_ _ | with_reducible refine Blk.grow ?_ _ | with_reducible refine Blk.drew ?_ | with_reducible refine Blk.drewN ?_ _ | (with_reducible refine Blk.far ?_ (by first | (dsimp only; omega) | (simp; omega)) _) | (with_reducible apply Blk.two) | (with_reducible refine Blk.set' ?_ _ _ ?_) | (with_reducible rfl) | rfl))
    have g_n : Blk w_2 ((Grow w_1 dr).heap.size) 28 #[.bool false, .slice none 0 0, .slice none 0 0, .slice none 0 0] := by
      refine Blk.kept ?_ hb_2
      (repeat (first | with_reducible assumption | (with_reducible refine Blk.new' ?_; first | with_reducible rfl | (simp; done)) | with_reducible refine Blk.alloc ?_ _ | with_reducible refine Blk.grow ?_ _ | with_reducible refine Blk.drew ?_ | with_reducible refine Blk.drewN ?_ _ | (with_reducible refine Blk.far ?_ (by first | (dsimp only; omega) | (simp; omega)) _) | (with_reducible apply Blk.two) | (with_reducible refine Blk.set' ?_ _ _ ?_) | (with_reducible rfl) | rfl))
    clear f_r r_l r_0 r_1 r_2 r_3 r_f0 r_f1 r_f2 r_f3 t_r hB_1 hb_2
    have f_r := g_r
    clear g_r
    have f_n := g_n
    clear g_n
    have r_0 : w_2.cell? ⟨w.heap.size, 0, none⟩ = some (.bool false) := (f_r).cell 0
    have r_1 : w_2.cell? ⟨w.heap.size, 1, none⟩ = some (.slice none 0 0) := (f_r).cell 1
    have r_2 : w_2.cell? ⟨w.heap.size, 2, none⟩ = some (.slice none 0 0) := (f_r).cell 2
    have r_3 : w_2.cell? ⟨w.heap.size, 3, none⟩ = some (.slice none 0 0) := (f_r).cell 3
    have r_f0 := (f_r).frozen 0
    have r_f1 := (f_r).frozen 1
    have r_f2 := (f_r).frozen 2
    have r_f3 := (f_r).frozen 3
    have r_l := (f_r).lt
    replace f_r := Lib.hid f_r
    have n_0 : w_2.cell? ⟨(Grow w_1 dr).heap.size, 0, none⟩ = some (.bool false) := (f_n).cell 0
    have n_1 : w_2.cell? ⟨(Grow w_1 dr).heap.size, 1, none⟩ = some (.slice none 0 0) := (f_n).cell 1
    have n_2 : w_2.cell? ⟨(Grow w_1 dr).heap.size, 2, none⟩ = some (.slice none 0 0) := (f_n).cell 2
    have n_3 : w_2.cell? ⟨(Grow w_1 dr).heap.size, 3, none⟩ = some (.slice none 0 0) := (f_n).cell 3
    have n_f0 := (f_n).frozen 0
    have n_f1 := (f_n).frozen 1
    have n_f2 := (f_n).frozen 2
    have n_f3 := (f_n).frozen 3
    have n_l := (f_n).lt
    replace f_n := Lib.hid f_n
    replace hB_2 := Lib.hid hB_2
    generalize (Grow w_1 dr).heap.size = g at *
    have hn1 : (w.heap.size = g) = False := by simp; omega
    have hn2 : (g = w.heap.size) = False := by simp; omega
    go_wp2_with fail
    refine abs_post (fun Y_ => Below w.heap.size w Y_ ∧ Blk Y_ w.heap.size 28 #[.bool false, .slice none 0 0, .slice none 0 0, .slice none 0 0]) ⟨by have t_B := hB_2.out; (repeat (first | with_reducible exact Below.refl _ _ | with_reducible assumption | (with_reducible refine bel_set ?_ (by first | exact Nat.le_refl _ | (simp; done) | (simp; omega) | omega) _) | with_reducible refine bel_grow ?_ _ | with_reducible refine Below.drew ?_ | with_reducible refine below_drewN ?_ _ | with_reducible refine bel_alloc ?_ _ | with_reducible refine bel_trans ?_ (by assumption))), Blk.four (Blk.far (Blk.far (Blk.far (Blk.far f_r.out (by have := r_l; dsimp only; omega) _) (by have := r_l; dsimp only; omega) _) (by have := r_l; dsimp only; omega) _) (by have := r_l; dsimp only; omega) _) _ _ _ _⟩ ?_
    rintro Y_ ⟨bZ_, gP_⟩
    have p_0 := gP_.cell 0
    have p_1 := gP_.cell 1
    have p_2 := gP_.cell 2
    have p_3 := gP_.cell 3
    have p_l := gP_.lt
    refine bodyPost_ret (v := .tuple #[.agg #[.bool false, .slice none 0 0, .slice none 0 0, .slice none 0 0], .int .i64 2]) (by simp [results, Try.results20, go_sem, p_0, p_1, p_2, p_3, p_l]) rfl ⟨rfl, bZ_⟩

set_option maxRecDepth 8000 in
set_option maxHeartbeats 4000000 in
theorem read_inner_no (B : Option Addr) (l c k v : Nat) (y : Nat → Int) (w : World) (hy : ∀ i, 0 ≤ y i ∧ y i < 256) (hk : 1 ≤ k ∧ k ≤ 24) (hv : v ≤ 108) (hl : 2 ≤ l ∧ l ≤ 500) (hlc : l ≤ c) (hc : c ≤ maxLen) (hs : SlIs w B l (yV y)) (M : Nat) (hM : cntY y = M + 1) (hno : l - 2 ≠ 4 + M * 4 + M * k) :
    Calls Try.prog 20 #[.int .u8 4, .slice B l c, .int .i64 k, .int .i64 v] w fun e w' => e = .returned (.tuple #[.agg #[.bool false, .slice none 0 0, .slice none 0 0, .slice none 0 0], .int .i64 2]) ∧ Below w.heap.size w w' := by
  have HL := Lib.hid (fun A m c' W (h : m = l - 2) => inner_no A m c' M k W (by have := cntY_lt y hy; omega) (by rw [h]; exact hno) (by omega) hk)
  clear hno
  have HC := Lib.hid (fun w => caps_any (k : Int) (v : Int) w)
  have hb0 := Below.refl w.heap.size w
  have h1 : (capL (k : Int) (v : Int) == 0) = false := by simpa using capL_pos hk hv
  have h2 : decide ((l : Int) < 2) = false := decide_eq_false (by omega)
  have h3 : decide ((500 : Int) < (l : Int)) = false := decide_eq_false (by omega)
  obtain ⟨b, o, rfl, hbl, hcl⟩ := hs (by omega)
  have y0 : w.cell? ⟨b, o, none⟩ = some (.int .u8 (y 0)) := hcl 0 (by omega)
  have y1 : w.cell? ⟨b, o + 1, none⟩ = some (.int .u8 (y 1)) := hcl 1 (by omega)
  have yb0 := hy 0
  have yb1 := hy 1
  have hor := or2_cnt y hy
  have hN6 := cntY_lt y hy
  generalize cntY y = N at *
  replace hor := Lib.hid hor
  replace hy := Lib.hid hy
  replace hs := Lib.hid hs
  clear hcl
  generalize capL (k : Int) (v : Int) = cl at *
  generalize capI (k : Int) (v : Int) = ci at *
  unfold maxLen at hc
  rw [hM] at hor
  rw [show ((M + 1 : Nat) : Int) = (M : Int) + 1 by omega] at hor
  clear hM
  by_cases hc2 : c = 2
  · obtain rfl : l = 2 := by omega
    subst hc2
    go_enter Try.func20, Try.ntmps20
    replace hb0 := Lib.hid hb0
    go_wp2_with fail
    refine (HC.out _).mono ?_
    rintro e w_1 ⟨rfl, hb_1⟩
    have z_1 := hb_1.size
    try simp at z_1
    have t_ := hb0.out
    have hB_1 := bel_eld (w := w) (X := _) (by first | ((repeat (first | with_reducible exact Below.refl _ _ | with_reducible assumption | (with_reducible refine bel_set ?_ (by first | exact Nat.le_refl _ | (simp; done) | (simp; omega) | omega) _) | with_reducible refine bel_grow ?_ _ | with_reducible refine Below.drew ?_ | with_reducible refine below_drewN ?_ _ | with_reducible refine bel_alloc ?_ _ | with_reducible refine bel_trans ?_ (by assumption))); done) | (repeat (first | exact Below.refl _ _ | assumption | refine below_drewN ?_ _ | refine bel_grow ?_ _ | refine Below.drew ?_ | refine bel_alloc ?_ _ | refine bel_set ?_ (by first | exact Nat.le_refl _ | (simp; done) | (simp; omega) | omega) _ | refine bel_trans ?_ (by assumption)))) hb_1
    clear t_
    have g_r : Blk w_1 (w.heap.size) 28 #[.bool false, .slice none 0 0, .slice none 0 0, .slice none 0 0] := by
      refine Blk.kept ?_ hb_1
      (repeat (first | with_reducible assumption | (with_reducible refine Blk.new' ?_; first | with_reducible rfl | (simp; done)) | with_reducible refine Blk.alloc ?_ _ | with_reducible refine Blk.grow ?_ _ | with_reducible refine Blk.drew ?_ | with_reducible refine Blk.drewN ?_ _ | (with_reducible refine Blk.far ?_ (by first | (dsimp only; omega) | (simp; omega)) _) | (with_reducible apply Blk.two) | (with_reducible refine Blk.set' ?_ _ _ ?_) | (with_reducible rfl) | rfl))
    clear hb0 hb_1
    have f_r := g_r
    clear g_r
    have r_0 : w_1.cell? ⟨w.heap.size, 0, none⟩ = some (.bool false) := (f_r).cell 0
    have r_1 : w_1.cell? ⟨w.heap.size, 1, none⟩ = some (.slice none 0 0) := (f_r).cell 1
    have r_2 : w_1.cell? ⟨w.heap.size, 2, none⟩ = some (.slice none 0 0) := (f_r).cell 2
    have r_3 : w_1.cell? ⟨w.heap.size, 3, none⟩ = some (.slice none 0 0) := (f_r).cell 3
    have r_f0 := (f_r).frozen 0
    have r_f1 := (f_r).frozen 1
    have r_f2 := (f_r).frozen 2
    have r_f3 := (f_r).frozen 3
    have r_l := (f_r).lt
    replace f_r := Lib.hid f_r
    replace hB_1 := Lib.hid hB_1
    have y0' := keepc hB_1.out y0
    have y1' := keepc hB_1.out y1
    have hb1' : b < w_1.heap.size := Nat.lt_of_lt_of_le hbl hB_1.out.size
    go_upto_region 4 with fail
    first | (with_reducible refine rgrow2 (by kernel_rfl) (by kernel_rfl) ?_) | (refine rgrow (by kernel_rfl) (by kernel_rfl) ?_)
    repeat (go_big_quiet_step ((fail)))
    refine wpQuiet_nil ?_
    intro dr
    go_wp2_with fail
    rw [hor.out]
    refine (HL.out _ _ _ _ (by omega)).mono ?_
    rintro e w_2 ⟨rfl, hb_2⟩
    have hwg : w.heap.size < (Grow w_1 dr).heap.size := Nat.lt_of_lt_of_le r_l (grow_size w_1 dr)
    have z_2 := hb_2.size
    try simp at z_2
    have t_ := hB_1.out
    have hB_2 := bel_eld (w := w) (X := _) (by first | ((repeat (first | with_reducible exact Below.refl _ _ | with_reducible assumption | (with_reducible refine bel_set ?_ (by first | exact Nat.le_refl _ | (simp; done) | (simp; omega) | omega) _) | with_reducible refine bel_grow ?_ _ | with_reducible refine Below.drew ?_ | with_reducible refine below_drewN ?_ _ | with_reducible refine bel_alloc ?_ _ | with_reducible refine bel_trans ?_ (by assumption))); done) | (repeat (first | exact Below.refl _ _ | assumption | refine below_drewN ?_ _ | refine bel_grow ?_ _ | refine Below.drew ?_ | refine bel_alloc ?_ _ | refine bel_set ?_ (by first | exact Nat.le_refl _ | (simp; done) | (simp; omega) | omega) _ | refine bel_trans ?_ (by assumption)))) hb_2
    clear t_
    have t_r := f_r.out
    have g_r : Blk w_2 (w.heap.size) 28 #[.bool false, .slice none 0 0, .slice none 0 0, .slice none 0 0] := by
      refine Blk.kept ?_ hb_2
      (repeat (first | with_reducible assumption | (with_reducible refine Blk.new' ?_; first | with_reducible rfl | (simp; done)) | with_reducible refine Blk.alloc ?_ _ | with_reducible refine Blk.grow ?_ _ | with_reducible refine Blk.drew ?_ | with_reducible refine Blk.drewN ?_ _ | (with_reducible refine Blk.far ?_ (by first | (dsimp only; omega) | (simp; omega)) _) | (with_reducible apply Blk.two) | (with_reducible refine Blk.set' ?_ _ _ ?_) | (with_reducible rfl) | rfl))
    have g_n : Blk w_2 ((Grow w_1 dr).heap.size) 28 #[.bool false, .slice none 0 0, .slice none 0 0, .slice none 0 0] := by
      refine Blk.kept ?_ hb_2
      (repeat (first | with_reducible assumption | (with_reducible refine Blk.new' ?_; first | with_reducible rfl | (simp; done)) | with_reducible refine Blk.alloc ?_ _ | with_reducible refine Blk.grow ?_ _ | with_reducible refine Blk.drew ?_ | with_reducible refine Blk.drewN ?_ _ | (with_reducible refine Blk.far ?_ (by first | (dsimp only; omega) | (simp; omega)) _) | (with_reducible apply Blk.two) | (with_reducible refine Blk.set' ?_ _ _ ?_) | (with_reducible rfl) | rfl))
    clear f_r r_l r_0 r_1 r_2 r_3 r_f0 r_f1 r_f2 r_f3 t_r hB_1 hb_2
    have f_r := g_r
    clear g_r
    have f_n := g_n
    clear g_n
    have r_0 : w_2.cell? ⟨w.heap.size, 0, none⟩ = some (.bool false) := (f_r).cell 0
    have r_1 : w_2.cell? ⟨w.heap.size, 1, none⟩ = some (.slice none 0 0) := (f_r).cell 1
    have r_2 : w_2.cell? ⟨w.heap.size, 2, none⟩ = some (.slice none 0 0) := (f_r).cell 2
    have r_3 : w_2.cell? ⟨w.heap.size, 3, none⟩ = some (.slice none 0 0) := (f_r).cell 3
    have r_f0 := (f_r).frozen 0
    have r_f1 := (f_r).frozen 1
    have r_f2 := (f_r).frozen 2
    have r_f3 := (f_r).frozen 3
    have r_l := (f_r).lt
    replace f_r := Lib.hid f_r
    have n_0 : w_2.cell? ⟨(Grow w_1 dr).heap.size, 0, none⟩ = some (.bool false) := (f_n).cell 0
    have n_1 : w_2.cell? ⟨(Grow w_1 dr).heap.size, 1, none⟩ = some (.slice none 0 0) := (f_n).cell 1
    have n_2 : w_2.cell? ⟨(Grow w_1 dr).heap.size, 2, none⟩ = some (.slice none 0 0) := (f_n).cell 2
    have n_3 : w_2.cell? ⟨(Grow w_1 dr).heap.size, 3, none⟩ = some (.slice none 0 0) := (f_n).cell 3
    have n_f0 := (f_n).frozen 0
    have n_f1 := (f_n).frozen 1
    have n_f2 := (f_n).frozen 2
    have n_f3 := (f_n).frozen 3
    have n_l := (f_n).lt
    replace f_n := Lib.hid f_n
    replace hB_2 := Lib.hid hB_2
    generalize (Grow w_1 dr).heap.size = g at *
    have hn1 : (w.heap.size = g) = False := by simp; omega
    have hn2 : (g = w.heap.size) = False := by simp; omega
    go_wp2_with fail
    refine abs_post (fun Y_ => Below w.heap.size w Y_ ∧ Blk Y_ w.heap.size 28 #[.bool false, .slice none 0 0, .slice none 0 0, .slice none 0 0]) ⟨by have t_B := hB_2.out; (repeat (first | with_reducible exact Below.refl _ _ | with_reducible assumption | (with_reducible refine bel_set ?_ (by first | exact Nat.le_refl _ | (simp; done) | (simp; omega) | omega) _) | with_reducible refine bel_grow ?_ _ | with_reducible refine Below.drew ?_ | with_reducible refine below_drewN ?_ _ | with_reducible refine bel_alloc ?_ _ | with_reducible refine bel_trans ?_ (by assumption))), Blk.four (Blk.far (Blk.far (Blk.far (Blk.far f_r.out (by have := r_l; dsimp only; omega) _) (by have := r_l; dsimp only; omega) _) (by have := r_l; dsimp only; omega) _) (by have := r_l; dsimp only; omega) _) _ _ _ _⟩ ?_
    rintro Y_ ⟨bZ_, gP_⟩
    have p_0 := gP_.cell 0
    have p_1 := gP_.cell 1
    have p_2 := gP_.cell 2
    have p_3 := gP_.cell 3
    have p_l := gP_.lt
    refine bodyPost_ret (v := .tuple #[.agg #[.bool false, .slice none 0 0, .slice none 0 0, .slice none 0 0], .int .i64 2]) (by simp [results, Try.results20, go_sem, p_0, p_1, p_2, p_3, p_l]) rfl ⟨rfl, bZ_⟩
  · have hc2' : ¬ (2 : Nat) = c := by omega
    have hc2i : ¬ (2 : Int) = (c : Int) := by omega
    go_enter Try.func20, Try.ntmps20
    replace hb0 := Lib.hid hb0
    go_wp2_with fail
    refine (HC.out _).mono ?_
    rintro e w_1 ⟨rfl, hb_1⟩
    have z_1 := hb_1.size
    try simp at z_1
    have t_ := hb0.out
    have hB_1 := bel_eld (w := w) (X := _) (by first | ((repeat (first | with_reducible exact Below.refl _ _ | with_reducible assumption | (with_reducible refine bel_set ?_ (by first | exact Nat.le_refl _ | (simp; done) | (simp; omega) | omega) _) | with_reducible refine bel_grow ?_ _ | with_reducible refine Below.drew ?_ | with_reducible refine below_drewN ?_ _ | with_reducible refine bel_alloc ?_ _ | with_reducible refine bel_trans ?_ (by assumption))); done) | (repeat (first | exact Below.refl _ _ | assumption | refine below_drewN ?_ _ | refine bel_grow ?_ _ | refine Below.drew ?_ | refine bel_alloc ?_ _ | refine bel_set ?_ (by first | exact Nat.le_refl _ | (simp; done) | (simp; omega) | omega) _ | refine bel_trans ?_ (by assumption)))) hb_1
    clear t_
    have g_r : Blk w_1 (w.heap.size) 28 #[.bool false, .slice none 0 0, .slice none 0 0, .slice none 0 0] := by
      refine Blk.kept ?_ hb_1
      (repeat (first | with_reducible assumption | (with_reducible refine Blk.new' ?_; first | with_reducible rfl | (simp; done)) | with_reducible refine Blk.alloc ?_ _ | with_reducible refine Blk.grow ?_ _ | with_reducible refine Blk.drew ?_ | with_reducible refine Blk.drewN ?_ _ | (with_reducible refine Blk.far ?_ (by first | (dsimp only; omega) | (simp; omega)) _) | (with_reducible apply Blk.two) | (with_reducible refine Blk.set' ?_ _ _ ?_) | (with_reducible rfl) | rfl))
    clear hb0 hb_1
    have f_r := g_r
    clear g_r
    have r_0 : w_1.cell? ⟨w.heap.size, 0, none⟩ = some (.bool false) := (f_r).cell 0
    have r_1 : w_1.cell? ⟨w.heap.size, 1, none⟩ = some (.slice none 0 0) := (f_r).cell 1
    have r_2 : w_1.cell? ⟨w.heap.size, 2, none⟩ = some (.slice none 0 0) := (f_r).cell 2
    have r_3 : w_1.cell? ⟨w.heap.size, 3, none⟩ = some (.slice none 0 0) := (f_r).cell 3
    have r_f0 := (f_r).frozen 0
    have r_f1 := (f_r).frozen 1
    have r_f2 := (f_r).frozen 2
    have r_f3 := (f_r).frozen 3
    have r_l := (f_r).lt
    replace f_r := Lib.hid f_r
    replace hB_1 := Lib.hid hB_1
    have y0' := keepc hB_1.out y0
    have y1' := keepc hB_1.out y1
    have hb1' : b < w_1.heap.size := Nat.lt_of_lt_of_le hbl hB_1.out.size
    go_upto_region 4 with fail
    first | (with_reducible refine rgrow2 (by kernel_rfl) (by kernel_rfl) ?_) | (refine rgrow (by kernel_rfl) (by kernel_rfl) ?_)
    repeat (go_big_quiet_step ((fail)))
    refine wpQuiet_nil ?_
    intro dr
    go_wp2_with fail
    rw [hor.out]
    refine (HL.out _ _ _ _ (by omega)).mono ?_
    rintro e w_2 ⟨rfl, hb_2⟩
    have hwg : w.heap.size < (Grow w_1 dr).heap.size := Nat.lt_of_lt_of_le r_l (grow_size w_1 dr)
    have z_2 := hb_2.size
    try simp at z_2
    have t_ := hB_1.out
    have hB_2 := bel_eld (w := w) (X := _) (by first | ((repeat (first | with_reducible exact Below.refl _ _ | with_reducible assumption | (with_reducible refine bel_set ?_ (by first | exact Nat.le_refl _ | (simp; done) | (simp; omega) | omega) _) | with_reducible refine bel_grow ?_ _ | with_reducible refine Below.drew ?_ | with_reducible refine below_drewN ?_ _ | with_reducible refine bel_alloc ?_ _ | with_reducible refine bel_trans ?_ (by assumption))); done) | (repeat (first | exact Below.refl _ _ | assumption | refine below_drewN ?_ _ | refine bel_grow ?_ _ | refine Below.drew ?_ | refine bel_alloc ?_ _ | refine bel_set ?_ (by first | exact Nat.le_refl _ | (simp; done) | (simp; omega) | omega) _ | refine bel_trans ?_ (by assumption)))) hb_2
    clear t_
    have t_r := f_r.out
    have g_r : Blk w_2 (w.heap.size) 28 #[.bool false, .slice none 0 0, .slice none 0 0, .slice none 0 0] := by
      refine Blk.kept ?_ hb_2
      (repeat (first | with_reducible assumption | (with_reducible refine Blk.new' ?_; first | with_reducible rfl | (simp; done)) | with_reducible refine Blk.alloc ?_ _ | with_reducible refine Blk.grow ?_ _ | with_reducible refine Blk.drew ?_ | with_reducible refine Blk.drewN ?_ _ | (with_reducible refine Blk.far ?_ (by first | (dsimp only; omega) | (simp; omega)) _) | (with_reducible apply Blk.two) | (with_reducible refine Blk.set' ?_ _ _ ?_) | (with_reducible rfl) | rfl))
    have g_n : Blk w_2 ((Grow w_1 dr).heap.size) 28 #[.bool false, .slice none 0 0, .slice none 0 0, .slice none 0 0] := by
      refine Blk.kept ?_ hb_2
      (repeat (first | with_reducible assumption | (with_reducible refine Blk.new' ?_; first | with_reducible rfl | (simp; done)) | with_reducible refine Blk.alloc ?_ _ | with_reducible refine Blk.grow ?_ _ | with_reducible refine Blk.drew ?_ | with_reducible refine Blk.drewN ?_ _ | (with_reducible refine Blk.far ?_ (by first | (dsimp only; omega) | (simp; omega)) _) | (with_reducible apply Blk.two) | (with_reducible refine Blk.set' ?_ _ _ ?_) | (with_reducible rfl) | rfl))
    clear f_r r_l r_0 r_1 r_2 r_3 r_f0 r_f1 r_f2 r_f3 t_r hB_1 hb_2
    have f_r := g_r
    clear g_r
    have f_n := g_n
    clear g_n
    have r_0 : w_2.cell? ⟨w.heap.size, 0, none⟩ = some (.bool false) := (f_r).cell 0
    have r_1 : w_2.cell? ⟨w.heap.size, 1, none⟩ = some (.slice none 0 0) := (f_r).cell 1
    have r_2 : w_2.cell? ⟨w.heap.size, 2, none⟩ = some (.slice none 0 0) := (f_r).cell 2
    have r_3 : w_2.cell? ⟨w.heap.size, 3, none⟩ = some (.slice none 0 0) := (f_r).cell 3
    have r_f0 := (f_r).frozen 0
    have r_f1 := (f_r).frozen 1
    have r_f2 := (f_r).frozen 2
    have r_f3 := (f_r).frozen 3
    have r_l := (f_r).lt
    replace f_r := Lib.hid f_r
    have n_0 : w_2.cell? ⟨(Grow w_1 dr).heap.size, 0, none⟩ = some (.bool false) := (f_n).cell 0
    have n_1 : w_2.cell? ⟨(Grow w_1 dr).heap.size, 1, none⟩ = some (.slice none 0 0) := (f_n).cell 1
    have n_2 : w_2.cell? ⟨(Grow w_1 dr).heap.size, 2, none⟩ = some (.slice none 0 0) := (f_n).cell 2
    have n_3 : w_2.cell? ⟨(Grow w_1 dr).heap.size, 3, none⟩ = some (.slice none 0 0) := (f_n).cell 3
    have n_f0 := (f_n).frozen 0
    have n_f1 := (f_n).frozen 1
    have n_f2 := (f_n).frozen 2
    have n_f3 := (f_n).frozen 3
    have n_l := (f_n).lt
    replace f_n := Lib.hid f_n
    replace hB_2 := Lib.hid hB_2
    generalize (Grow w_1 dr).heap.size = g at *
    have hn1 : (w.heap.size = g) = False := by simp; omega
    have hn2 : (g = w.heap.size) = False := by simp; omega
    go_wp2_with fail
    refine abs_post (fun Y_ => Below w.heap.size w Y_ ∧ Blk Y_ w.heap.size 28 #[.bool false, .slice none 0 0, .slice none 0 0, .slice none 0 0]) ⟨by have t_B := hB_2.out; (repeat (first | with_reducible exact Below.refl _ _ | with_reducible assumption | (with_reducible refine bel_set ?_ (by first | exact Nat.le_refl _ | (simp; done) | (simp; omega) | omega) _) | with_reducible refine bel_grow ?_ _ | with_reducible refine Below.drew ?_ | with_reducible refine below_drewN ?_ _ | with_reducible refine bel_alloc ?_ _ | with_reducible refine bel_trans ?_ (by assumption))), Blk.four (Blk.far (Blk.far (Blk.far (Blk.far f_r.out (by have := r_l; dsimp only; omega) _) (by have := r_l; dsimp only; omega) _) (by have := r_l; dsimp only; omega) _) (by have := r_l; dsimp only; omega) _) _ _ _ _⟩ ?_
    rintro Y_ ⟨bZ_, gP_⟩
    have p_0 := gP_.cell 0
    have p_1 := gP_.cell 1
    have p_2 := gP_.cell 2
    have p_3 := gP_.cell 3
    have p_l := gP_.lt
    refine bodyPost_ret (v := .tuple #[.agg #[.bool false, .slice none 0 0, .slice none 0 0, .slice none 0 0], .int .i64 2]) (by simp [results, Try.results20, go_sem, p_0, p_1, p_2, p_3, p_l]) rfl ⟨rfl, bZ_⟩

set_option maxRecDepth 8000 in
set_option maxHeartbeats 4000000 in
theorem read_inner_wrong (B : Option Addr) (l c k v : Nat) (y : Nat → Int) (w : World) (hy : ∀ i, 0 ≤ y i ∧ y i < 256) (hk : 1 ≤ k ∧ k ≤ 24) (hv : v ≤ 108) (hl : 2 ≤ l ∧ l ≤ 500) (hlc : l ≤ c) (hc : c ≤ maxLen) (hs : SlIs w B l (yV y)) (M : Nat) (hM : cntY y = M + 1) (hyes : l - 2 = 4 + M * 4 + M * k) (hq : rightB (ndI k y M) k v = false) :
    Calls Try.prog 20 #[.int .u8 4, .slice B l c, .int .i64 k, .int .i64 v] w fun e w' => e = .returned (.tuple #[.agg #[.bool false, .slice none 0 0, .slice none 0 0, .slice none 0 0], .int .i64 2]) ∧ Below w.heap.size w w' := by
  have HL := fun A m c' W (h : m = l - 2) (h2 : m ≤ c') (h3 : c' ≤ maxLen) (h4 : SlIs W A m (yV (shf y 2))) => inner_yes A m c' M k (shf y 2) W (h.trans hyes) (by omega) hk h2 h3 (fun i => hy _) h4
  simp only [shf_shf] at HL
  have hcb : M ≤ 498 := by omega
  have HQ := fun KA CA kc cc W (hN : RsIs W KA M (fun _ => k) (fun i => shf y (2 + (4 + M * 4 + i * k))) ∧ SlIs W CA (M + 1) (fun i => .int .u32 (num (shf y 2) (i * 4) 4))) => right_any false KA none CA M kc 0 0 (M + 1) cc (fun _ => k) (fun _ => 0) (fun i => shf y (2 + (4 + M * 4 + i * k))) (fun _ _ => 0) (fun i => num (shf y 2) (i * 4) 4) k v W ⟨hN.1, RsIs.nil, hN.2, by show M ≤ 1000000; omega, by show 0 ≤ 1000000; omega, by show M + 1 ≤ 1000000; omega⟩
  rw [show rightB ⟨false, M, fun _ => k, fun i => shf y (2 + (4 + M * 4 + i * k)), 0, fun _ => 0, fun _ _ => 0, M + 1, fun i => num (shf y 2) (i * 4) 4⟩ (k : Int) (v : Int) = false from hq] at HQ
  replace HQ := Lib.hid HQ
  replace HL := Lib.hid HL
  clear hyes hq
  have HC := Lib.hid (fun w => caps_any (k : Int) (v : Int) w)
  have hb0 := Below.refl w.heap.size w
  have h1 : (capL (k : Int) (v : Int) == 0) = false := by simpa using capL_pos hk hv
  have h2 : decide ((l : Int) < 2) = false := decide_eq_false (by omega)
  have h3 : decide ((500 : Int) < (l : Int)) = false := decide_eq_false (by omega)
  obtain ⟨b, o, rfl, hbl, hcl⟩ := hs (by omega)
  have y0 : w.cell? ⟨b, o, none⟩ = some (.int .u8 (y 0)) := hcl 0 (by omega)
  have y1 : w.cell? ⟨b, o + 1, none⟩ = some (.int .u8 (y 1)) := hcl 1 (by omega)
  have yb0 := hy 0
  have yb1 := hy 1
  have hor := or2_cnt y hy
  have hN6 := cntY_lt y hy
  generalize cntY y = N at *
  replace hor := Lib.hid hor
  replace hy := Lib.hid hy
  replace hs := Lib.hid hs
  clear hcl
  generalize capL (k : Int) (v : Int) = cl at *
  generalize capI (k : Int) (v : Int) = ci at *
  unfold maxLen at hc
  rw [hM] at hor
  rw [show ((M + 1 : Nat) : Int) = (M : Int) + 1 by omega] at hor
  clear hM
  by_cases hc2 : c = 2
  · obtain rfl : l = 2 := by omega
    subst hc2
    go_enter Try.func20, Try.ntmps20
    replace hb0 := Lib.hid hb0
    go_wp2_with fail
    refine (HC.out _).mono ?_
    rintro e w_1 ⟨rfl, hb_1⟩
    have z_1 := hb_1.size
    try simp at z_1
    have t_ := hb0.out
    have hB_1 := bel_eld (w := w) (X := _) (by first | ((repeat (first | with_reducible exact Below.refl _ _ | with_reducible assumption | (with_reducible refine bel_set ?_ (by first | exact Nat.le_refl _ | (simp; done) | (simp; omega) | omega) _) | with_reducible refine bel_grow ?_ _ | with_reducible refine Below.drew ?_ | with_reducible refine below_drewN ?_ _ | with_reducible refine bel_alloc ?_ _ | with_reducible refine bel_trans ?_ (by assumption))); done) | (repeat (first | exact Below.refl _ _ | assumption | refine below_drewN ?_ _ | refine bel_grow ?_ _ | refine Below.drew ?_ | refine bel_alloc ?_ _ | refine bel_set ?_ (by first | exact Nat.le_refl _ | (simp; done) | (simp; omega) | omega) _ | refine bel_trans ?_ (by assumption)))) hb_1
    clear t_
    have g_r : Blk w_1 (w.heap.size) 28 #[.bool false, .slice none 0 0, .slice none 0 0, .slice none 0 0] := by
      refine Blk.kept ?_ hb_1
      (repeat (first | with_reducible assumption | (with_reducible refine Blk.new' ?_; first | with_reducible rfl | (simp; done)) | with_reducible refine Blk.alloc ?_ _ | with_reducible refine Blk.grow ?_ _ | with_reducible refine Blk.drew ?_ | with_reducible refine Blk.drewN ?_ _ | (with_reducible refine Blk.far ?_ (by first | (dsimp only; omega) | (simp; omega)) _) | (with_reducible apply Blk.two) | (with_reducible refine Blk.set' ?_ _ _ ?_) | (with_reducible rfl) | rfl))
    clear hb0 hb_1
    have f_r := g_r
    clear g_r
    have r_0 : w_1.cell? ⟨w.heap.size, 0, none⟩ = some (.bool false) := (f_r).cell 0
    have r_1 : w_1.cell? ⟨w.heap.size, 1, none⟩ = some (.slice none 0 0) := (f_r).cell 1
    have r_2 : w_1.cell? ⟨w.heap.size, 2, none⟩ = some (.slice none 0 0) := (f_r).cell 2
    have r_3 : w_1.cell? ⟨w.heap.size, 3, none⟩ = some (.slice none 0 0) := (f_r).cell 3
    have r_f0 := (f_r).frozen 0
    have r_f1 := (f_r).frozen 1
    have r_f2 := (f_r).frozen 2
    have r_f3 := (f_r).frozen 3
    have r_l := (f_r).lt
    replace f_r := Lib.hid f_r
    replace hB_1 := Lib.hid hB_1
    have y0' := keepc hB_1.out y0
    have y1' := keepc hB_1.out y1
    have hb1' : b < w_1.heap.size := Nat.lt_of_lt_of_le hbl hB_1.out.size
    go_upto_region 4 with fail
    first | (with_reducible refine rgrow2 (by kernel_rfl) (by kernel_rfl) ?_) | (refine rgrow (by kernel_rfl) (by kernel_rfl) ?_)
    repeat (go_big_quiet_step ((fail)))
    refine wpQuiet_nil ?_
    intro dr
    go_wp2_with fail
    rw [hor.out]
    refine (HL.out _ _ _ _ (by omega) (by omega) (by unfold maxLen; omega) (by first | exact SlIs.nil | exact (SlIs.from2 hs.out).below (by have t_B := hB_1.out; (repeat (first | with_reducible exact Below.refl _ _ | with_reducible assumption | (with_reducible refine bel_set ?_ (by first | exact Nat.le_refl _ | (simp; done) | (simp; omega) | omega) _) | with_reducible refine bel_grow ?_ _ | with_reducible refine Below.drew ?_ | with_reducible refine below_drewN ?_ _ | with_reducible refine bel_alloc ?_ _ | with_reducible refine bel_trans ?_ (by assumption)))))).mono ?_
    rintro e w_2 ⟨A1, e1, A3, e3, rfl, hR, hb_2⟩
    have hwg : w.heap.size < (Grow w_1 dr).heap.size := Nat.lt_of_lt_of_le r_l (grow_size w_1 dr)
    have hR2 := Lib.hid (fun Z (hZ : Above ((Grow w_1 dr).heap.size + 1) w_2 Z) => hR Z (by simpa using hZ))
    clear hR
    have z_2 := hb_2.size
    try simp at z_2
    have t_ := hB_1.out
    have hB_2 := bel_eld (w := w) (X := _) (by first | ((repeat (first | with_reducible exact Below.refl _ _ | with_reducible assumption | (with_reducible refine bel_set ?_ (by first | exact Nat.le_refl _ | (simp; done) | (simp; omega) | omega) _) | with_reducible refine bel_grow ?_ _ | with_reducible refine Below.drew ?_ | with_reducible refine below_drewN ?_ _ | with_reducible refine bel_alloc ?_ _ | with_reducible refine bel_trans ?_ (by assumption))); done) | (repeat (first | exact Below.refl _ _ | assumption | refine below_drewN ?_ _ | refine bel_grow ?_ _ | refine Below.drew ?_ | refine bel_alloc ?_ _ | refine bel_set ?_ (by first | exact Nat.le_refl _ | (simp; done) | (simp; omega) | omega) _ | refine bel_trans ?_ (by assumption)))) hb_2
    clear t_
    have t_r := f_r.out
    have g_r : Blk w_2 (w.heap.size) 28 #[.bool false, .slice none 0 0, .slice none 0 0, .slice none 0 0] := by
      refine Blk.kept ?_ hb_2
      (repeat (first | with_reducible assumption | (with_reducible refine Blk.new' ?_; first | with_reducible rfl | (simp; done)) | with_reducible refine Blk.alloc ?_ _ | with_reducible refine Blk.grow ?_ _ | with_reducible refine Blk.drew ?_ | with_reducible refine Blk.drewN ?_ _ | (with_reducible refine Blk.far ?_ (by first | (dsimp only; omega) | (simp; omega)) _) | (with_reducible apply Blk.two) | (with_reducible refine Blk.set' ?_ _ _ ?_) | (with_reducible rfl) | rfl))
    have g_n : Blk w_2 ((Grow w_1 dr).heap.size) 28 #[.bool false, .slice none 0 0, .slice none 0 0, .slice none 0 0] := by
      refine Blk.kept ?_ hb_2
      (repeat (first | with_reducible assumption | (with_reducible refine Blk.new' ?_; first | with_reducible rfl | (simp; done)) | with_reducible refine Blk.alloc ?_ _ | with_reducible refine Blk.grow ?_ _ | with_reducible refine Blk.drew ?_ | with_reducible refine Blk.drewN ?_ _ | (with_reducible refine Blk.far ?_ (by first | (dsimp only; omega) | (simp; omega)) _) | (with_reducible apply Blk.two) | (with_reducible refine Blk.set' ?_ _ _ ?_) | (with_reducible rfl) | rfl))
    clear f_r r_l r_0 r_1 r_2 r_3 r_f0 r_f1 r_f2 r_f3 t_r hB_1 hb_2
    have f_r := g_r
    clear g_r
    have f_n := g_n
    clear g_n
    have r_0 : w_2.cell? ⟨w.heap.size, 0, none⟩ = some (.bool false) := (f_r).cell 0
    have r_1 : w_2.cell? ⟨w.heap.size, 1, none⟩ = some (.slice none 0 0) := (f_r).cell 1
    have r_2 : w_2.cell? ⟨w.heap.size, 2, none⟩ = some (.slice none 0 0) := (f_r).cell 2
    have r_3 : w_2.cell? ⟨w.heap.size, 3, none⟩ = some (.slice none 0 0) := (f_r).cell 3
    have r_f0 := (f_r).frozen 0
    have r_f1 := (f_r).frozen 1
    have r_f2 := (f_r).frozen 2
    have r_f3 := (f_r).frozen 3
    have r_l := (f_r).lt
    replace f_r := Lib.hid f_r
    have n_0 : w_2.cell? ⟨(Grow w_1 dr).heap.size, 0, none⟩ = some (.bool false) := (f_n).cell 0
    have n_1 : w_2.cell? ⟨(Grow w_1 dr).heap.size, 1, none⟩ = some (.slice none 0 0) := (f_n).cell 1
    have n_2 : w_2.cell? ⟨(Grow w_1 dr).heap.size, 2, none⟩ = some (.slice none 0 0) := (f_n).cell 2
    have n_3 : w_2.cell? ⟨(Grow w_1 dr).heap.size, 3, none⟩ = some (.slice none 0 0) := (f_n).cell 3
    have n_f0 := (f_n).frozen 0
    have n_f1 := (f_n).frozen 1
    have n_f2 := (f_n).frozen 2
    have n_f3 := (f_n).frozen 3
    have n_l := (f_n).lt
    replace f_n := Lib.hid f_n
    replace hB_2 := Lib.hid hB_2
    generalize (Grow w_1 dr).heap.size = g at *
    have hn1 : (w.heap.size = g) = False := by simp; omega
    have hn2 : (g = w.heap.size) = False := by simp; omega
    go_wp2_with fail
    have q4 := Blk.four f_n.out (.bool false) (.slice A1 M e1) (.slice none 0 0) (.slice A3 (M + 1) e3)
    refine (HQ.out A1 A3 _ _ _ (hR2.out _ (((((Above.refl (g + 1) w_2).set (p := ⟨g, 0, none⟩) (by dsimp only; omega) _).set (p := ⟨g, 1, none⟩) (by dsimp only; omega) _).set (p := ⟨g, 2, none⟩) (by dsimp only; omega) _).set (p := ⟨g, 3, none⟩) (by dsimp only; omega) _))).mono ?_
    rintro e w_3 ⟨rfl, hb_3⟩
    have kb3 := Lib.hid hb_3
    have z_3 := hb_3.size
    try simp at z_3
    have t_ := hB_2.out
    have hB_3 := bel_eld (w := w) (X := _) (by first | ((repeat (first | with_reducible exact Below.refl _ _ | with_reducible assumption | (with_reducible refine bel_set ?_ (by first | exact Nat.le_refl _ | (simp; done) | (simp; omega) | omega) _) | with_reducible refine bel_grow ?_ _ | with_reducible refine Below.drew ?_ | with_reducible refine below_drewN ?_ _ | with_reducible refine bel_alloc ?_ _ | with_reducible refine bel_trans ?_ (by assumption))); done) | (repeat (first | exact Below.refl _ _ | assumption | refine below_drewN ?_ _ | refine bel_grow ?_ _ | refine Below.drew ?_ | refine bel_alloc ?_ _ | refine bel_set ?_ (by first | exact Nat.le_refl _ | (simp; done) | (simp; omega) | omega) _ | refine bel_trans ?_ (by assumption)))) hb_3
    clear t_
    have t_r := f_r.out
    have g_r : Blk w_3 (w.heap.size) 28 #[.bool false, .slice none 0 0, .slice none 0 0, .slice none 0 0] := by
      refine Blk.kept ?_ hb_3
      (repeat (first | with_reducible assumption | (with_reducible refine Blk.new' ?_; first | with_reducible rfl | (simp; done)) | with_reducible refine Blk.alloc ?_ _ | with_reducible refine Blk.grow ?_ _ | with_reducible refine Blk.drew ?_ | with_reducible refine Blk.drewN ?_ _ | (with_reducible refine Blk.far ?_ (by first | (dsimp only; omega) | (simp; omega)) _) | (with_reducible apply Blk.two) | (with_reducible refine Blk.set' ?_ _ _ ?_) | (with_reducible rfl) | rfl))
    have g_m : Blk w_3 (g) 28 #[.bool false, .slice A1 M e1, .slice none 0 0, .slice A3 (M + 1) e3] := by
      refine Blk.kept ?_ hb_3
      (repeat (first | with_reducible assumption | (with_reducible refine Blk.new' ?_; first | with_reducible rfl | (simp; done)) | with_reducible refine Blk.alloc ?_ _ | with_reducible refine Blk.grow ?_ _ | with_reducible refine Blk.drew ?_ | with_reducible refine Blk.drewN ?_ _ | (with_reducible refine Blk.far ?_ (by first | (dsimp only; omega) | (simp; omega)) _) | (with_reducible apply Blk.two) | (with_reducible refine Blk.set' ?_ _ _ ?_) | (with_reducible rfl) | rfl))
    clear f_r r_l r_0 r_1 r_2 r_3 r_f0 r_f1 r_f2 r_f3 f_n n_l n_0 n_1 n_2 n_3 n_f0 n_f1 n_f2 n_f3 t_r hB_2 hb_3
    have f_r := g_r
    clear g_r
    have f_m := g_m
    clear g_m
    have r_0 : w_3.cell? ⟨w.heap.size, 0, none⟩ = some (.bool false) := (f_r).cell 0
    have r_1 : w_3.cell? ⟨w.heap.size, 1, none⟩ = some (.slice none 0 0) := (f_r).cell 1
    have r_2 : w_3.cell? ⟨w.heap.size, 2, none⟩ = some (.slice none 0 0) := (f_r).cell 2
    have r_3 : w_3.cell? ⟨w.heap.size, 3, none⟩ = some (.slice none 0 0) := (f_r).cell 3
    have r_f0 := (f_r).frozen 0
    have r_f1 := (f_r).frozen 1
    have r_f2 := (f_r).frozen 2
    have r_f3 := (f_r).frozen 3
    have r_l := (f_r).lt
    replace f_r := Lib.hid f_r
    have m_0 : w_3.cell? ⟨g, 0, none⟩ = some (.bool false) := (f_m).cell 0
    have m_1 : w_3.cell? ⟨g, 1, none⟩ = some (.slice A1 M e1) := (f_m).cell 1
    have m_2 : w_3.cell? ⟨g, 2, none⟩ = some (.slice none 0 0) := (f_m).cell 2
    have m_3 : w_3.cell? ⟨g, 3, none⟩ = some (.slice A3 (M + 1) e3) := (f_m).cell 3
    have m_f0 := (f_m).frozen 0
    have m_f1 := (f_m).frozen 1
    have m_f2 := (f_m).frozen 2
    have m_f3 := (f_m).frozen 3
    have m_l := (f_m).lt
    replace f_m := Lib.hid f_m
    replace hB_3 := Lib.hid hB_3
    clear q4
    go_wp2_with fail
    refine abs_post (fun Y_ => Below w.heap.size w Y_ ∧ Blk Y_ w.heap.size 28 #[.bool false, .slice none 0 0, .slice none 0 0, .slice none 0 0]) ⟨by have t_B := hB_3.out; (repeat (first | with_reducible exact Below.refl _ _ | with_reducible assumption | (with_reducible refine bel_set ?_ (by first | exact Nat.le_refl _ | (simp; done) | (simp; omega) | omega) _) | with_reducible refine bel_grow ?_ _ | with_reducible refine Below.drew ?_ | with_reducible refine below_drewN ?_ _ | with_reducible refine bel_alloc ?_ _ | with_reducible refine bel_trans ?_ (by assumption))), Blk.four f_r.out _ _ _ _⟩ ?_
    rintro Y_ ⟨bZ_, gP_⟩
    have p_0 := gP_.cell 0
    have p_1 := gP_.cell 1
    have p_2 := gP_.cell 2
    have p_3 := gP_.cell 3
    have p_l := gP_.lt
    refine bodyPost_ret (v := .tuple #[.agg #[.bool false, .slice none 0 0, .slice none 0 0, .slice none 0 0], .int .i64 2]) (by simp [results, Try.results20, go_sem, p_0, p_1, p_2, p_3, p_l]) rfl ⟨rfl, bZ_⟩
  · have hc2' : ¬ (2 : Nat) = c := by omega
    have hc2i : ¬ (2 : Int) = (c : Int) := by omega
    go_enter Try.func20, Try.ntmps20
    replace hb0 := Lib.hid hb0
    go_wp2_with fail
    refine (HC.out _).mono ?_
    rintro e w_1 ⟨rfl, hb_1⟩
    have z_1 := hb_1.size
    try simp at z_1
    have t_ := hb0.out
    have hB_1 := bel_eld (w := w) (X := _) (by first | ((repeat (first | with_reducible exact Below.refl _ _ | with_reducible assumption | (with_reducible refine bel_set ?_ (by first | exact Nat.le_refl _ | (simp; done) | (simp; omega) | omega) _) | with_reducible refine bel_grow ?_ _ | with_reducible refine Below.drew ?_ | with_reducible refine below_drewN ?_ _ | with_reducible refine bel_alloc ?_ _ | with_reducible refine bel_trans ?_ (by assumption))); done) | (repeat (first | exact Below.refl _ _ | assumption | refine below_drewN ?_ _ | refine bel_grow ?_ _ | refine Below.drew ?_ | refine bel_alloc ?_ _ | refine bel_set ?_ (by first | exact Nat.le_refl _ | (simp; done) | (simp; omega) | omega) _ | refine bel_trans ?_ (by assumption)))) hb_1
    clear t_
    have g_r : Blk w_1 (w.heap.size) 28 #[.bool false, .slice none 0 0, .slice none 0 0, .slice none 0 0] := by
      refine Blk.kept ?_ hb_1
      (repeat (first | with_reducible assumption | (with_reducible refine Blk.new' ?_; first | with_reducible rfl | (simp; done)) | with_reducible refine Blk.alloc ?_ _ | with_reducible refine Blk.grow ?_ _ | with_reducible refine Blk.drew ?_ | with_reducible refine Blk.drewN ?_ _ | (with_reducible refine Blk.far ?_ (by first | (dsimp only; omega) | (simp; omega)) _) | (with_reducible apply Blk.two) | (with_reducible refine Blk.set' ?_ _ _ ?_) | (with_reducible rfl) | rfl))
    clear hb0 hb_1
    have f_r := g_r
    clear g_r
    have r_0 : w_1.cell? ⟨w.heap.size, 0, none⟩ = some (.bool false) := (f_r).cell 0
    have r_1 : w_1.cell? ⟨w.heap.size, 1, none⟩ = some (.slice none 0 0) := (f_r).cell 1
    have r_2 : w_1.cell? ⟨w.heap.size, 2, none⟩ = some (.slice none 0 0) := (f_r).cell 2
    have r_3 : w_1.cell? ⟨w.heap.size, 3, none⟩ = some (.slice none 0 0) := (f_r).cell 3
    have r_f0 := (f_r).frozen 0
    have r_f1 := (f_r).frozen 1
    have r_f2 := (f_r).frozen 2
    have r_f3 := (f_r).frozen 3
    have r_l := (f_r).lt
    replace f_r := Lib.hid f_r
    replace hB_1 := Lib.hid hB_1
    have y0' := keepc hB_1.out y0
    have y1' := keepc hB_1.out y1
    have hb1' : b < w_1.heap.size := Nat.lt_of_lt_of_le hbl hB_1.out.size
    go_upto_region 4 with fail
    first | (with_reducible refine rgrow2 (by kernel_rfl) (by kernel_rfl) ?_) | (refine rgrow (by kernel_rfl) (by kernel_rfl) ?_)
    repeat (go_big_quiet_step ((fail)))
    refine wpQuiet_nil ?_
    intro dr
    go_wp2_with fail
    rw [hor.out]
    refine (HL.out _ _ _ _ (by omega) (by omega) (by unfold maxLen; omega) (by first | exact SlIs.nil | exact (SlIs.from2 hs.out).below (by have t_B := hB_1.out; (repeat (first | with_reducible exact Below.refl _ _ | with_reducible assumption | (with_reducible refine bel_set ?_ (by first | exact Nat.le_refl _ | (simp; done) | (simp; omega) | omega) _) | with_reducible refine bel_grow ?_ _ | with_reducible refine Below.drew ?_ | with_reducible refine below_drewN ?_ _ | with_reducible refine bel_alloc ?_ _ | with_reducible refine bel_trans ?_ (by assumption)))))).mono ?_
    rintro e w_2 ⟨A1, e1, A3, e3, rfl, hR, hb_2⟩
    have hwg : w.heap.size < (Grow w_1 dr).heap.size := Nat.lt_of_lt_of_le r_l (grow_size w_1 dr)
    have hR2 := Lib.hid (fun Z (hZ : Above ((Grow w_1 dr).heap.size + 1) w_2 Z) => hR Z (by simpa using hZ))
    clear hR
    have z_2 := hb_2.size
    try simp at z_2
    have t_ := hB_1.out
    have hB_2 := bel_eld (w := w) (X := _) (by first | ((repeat (first | with_reducible exact Below.refl _ _ | with_reducible assumption | (with_reducible refine bel_set ?_ (by first | exact Nat.le_refl _ | (simp; done) | (simp; omega) | omega) _) | with_reducible refine bel_grow ?_ _ | with_reducible refine Below.drew ?_ | with_reducible refine below_drewN ?_ _ | with_reducible refine bel_alloc ?_ _ | with_reducible refine bel_trans ?_ (by assumption))); done) | (repeat (first | exact Below.refl _ _ | assumption | refine below_drewN ?_ _ | refine bel_grow ?_ _ | refine Below.drew ?_ | refine bel_alloc ?_ _ | refine bel_set ?_ (by first | exact Nat.le_refl _ | (simp; done) | (simp; omega) | omega) _ | refine bel_trans ?_ (by assumption)))) hb_2
    clear t_
    have t_r := f_r.out
    have g_r : Blk w_2 (w.heap.size) 28 #[.bool false, .slice none 0 0, .slice none 0 0, .slice none 0 0] := by
      refine Blk.kept ?_ hb_2
      (repeat (first | with_reducible assumption | (with_reducible refine Blk.new' ?_; first | with_reducible rfl | (simp; done)) | with_reducible refine Blk.alloc ?_ _ | with_reducible refine Blk.grow ?_ _ | with_reducible refine Blk.drew ?_ | with_reducible refine Blk.drewN ?_ _ | (with_reducible refine Blk.far ?_ (by first | (dsimp only; omega) | (simp; omega)) _) | (with_reducible apply Blk.two) | (with_reducible refine Blk.set' ?_ _ _ ?_) | (with_reducible rfl) | rfl))
    have g_n : Blk w_2 ((Grow w_1 dr).heap.size) 28 #[.bool false, .slice none 0 0, .slice none 0 0, .slice none 0 0] := by
      refine Blk.kept ?_ hb_2
      (repeat (first | with_reducible assumption | (with_reducible refine Blk.new' ?_; first | with_reducible rfl | (simp; done)) | with_reducible refine Blk.alloc ?_ _ | with_reducible refine Blk.grow ?_ _ | with_reducible refine Blk.drew ?_ | with_reducible refine Blk.drewN ?_ _ | (with_reducible refine Blk.far ?_ (by first | (dsimp only; omega) | (simp; omega)) _) | (with_reducible apply Blk.two) | (with_reducible refine Blk.set' ?_ _ _ ?_) | (with_reducible rfl) | rfl))
    clear f_r r_l r_0 r_1 r_2 r_3 r_f0 r_f1 r_f2 r_f3 t_r hB_1 hb_2
    have f_r := g_r
    clear g_r
    have f_n := g_n
    clear g_n
    have r_0 : w_2.cell? ⟨w.heap.size, 0, none⟩ = some (.bool false) := (f_r).cell 0
    have r_1 : w_2.cell? ⟨w.heap.size, 1, none⟩ = some (.slice none 0 0) := (f_r).cell 1
    have r_2 : w_2.cell? ⟨w.heap.size, 2, none⟩ = some (.slice none 0 0) := (f_r).cell 2
    have r_3 : w_2.cell? ⟨w.heap.size, 3, none⟩ = some (.slice none 0 0) := (f_r).cell 3
    have r_f0 := (f_r).frozen 0
    have r_f1 := (f_r).frozen 1
    have r_f2 := (f_r).frozen 2
    have r_f3 := (f_r).frozen 3
    have r_l := (f_r).lt
    replace f_r := Lib.hid f_r
    have n_0 : w_2.cell? ⟨(Grow w_1 dr).heap.size, 0, none⟩ = some (.bool false) := (f_n).cell 0
    have n_1 : w_2.cell? ⟨(Grow w_1 dr).heap.size, 1, none⟩ = some (.slice none 0 0) := (f_n).cell 1
    have n_2 : w_2.cell? ⟨(Grow w_1 dr).heap.size, 2, none⟩ = some (.slice none 0 0) := (f_n).cell 2
    have n_3 : w_2.cell? ⟨(Grow w_1 dr).heap.size, 3, none⟩ = some (.slice none 0 0) := (f_n).cell 3
    have n_f0 := (f_n).frozen 0
    have n_f1 := (f_n).frozen 1
    have n_f2 := (f_n).frozen 2
    have n_f3 := (f_n).frozen 3
    have n_l := (f_n).lt
    replace f_n := Lib.hid f_n
    replace hB_2 := Lib.hid hB_2
    generalize (Grow w_1 dr).heap.size = g at *
    have hn1 : (w.heap.size = g) = False := by simp; omega
    have hn2 : (g = w.heap.size) = False := by simp; omega
    go_wp2_with fail
    have q4 := Blk.four f_n.out (.bool false) (.slice A1 M e1) (.slice none 0 0) (.slice A3 (M + 1) e3)
    refine (HQ.out A1 A3 _ _ _ (hR2.out _ (((((Above.refl (g + 1) w_2).set (p := ⟨g, 0, none⟩) (by dsimp only; omega) _).set (p := ⟨g, 1, none⟩) (by dsimp only; omega) _).set (p := ⟨g, 2, none⟩) (by dsimp only; omega) _).set (p := ⟨g, 3, none⟩) (by dsimp only; omega) _))).mono ?_
    rintro e w_3 ⟨rfl, hb_3⟩
    have kb3 := Lib.hid hb_3
    have z_3 := hb_3.size
    try simp at z_3
    have t_ := hB_2.out
    have hB_3 := bel_eld (w := w) (X := _) (by first | ((repeat (first | with_reducible exact Below.refl _ _ | with_reducible assumption | (with_reducible refine bel_set ?_ (by first | exact Nat.le_refl _ | (simp; done) | (simp; omega) | omega) _) | with_reducible refine bel_grow ?_ _ | with_reducible refine Below.drew ?_ | with_reducible refine below_drewN ?_ _ | with_reducible refine bel_alloc ?_ _ | with_reducible refine bel_trans ?_ (by assumption))); done) | (repeat (first | exact Below.refl _ _ | assumption | refine below_drewN ?_ _ | refine bel_grow ?_ _ | refine Below.drew ?_ | refine bel_alloc ?_ _ | refine bel_set ?_ (by first | exact Nat.le_refl _ | (simp; done) | (simp; omega) | omega) _ | refine bel_trans ?_ (by assumption)))) hb_3
    clear t_
    have t_r := f_r.out
    have g_r : Blk w_3 (w.heap.size) 28 #[.bool false, .slice none 0 0, .slice none 0 0, .slice none 0 0] := by
      refine Blk.kept ?_ hb_3
      (repeat (first | with_reducible assumption | (with_reducible refine Blk.new' ?_; first | with_reducible rfl | (simp; done)) | with_reducible refine Blk.alloc ?_ _ | with_reducible refine Blk.grow ?_ _ | with_reducible refine Blk.drew ?_ | with_reducible refine Blk.drewN ?_ _ | (with_reducible refine Blk.far ?_ (by first | (dsimp only; omega) | (simp; omega)) _) | (with_reducible apply Blk.two) | (with_reducible refine Blk.set' ?_ _ _ ?_) | (with_reducible rfl) | rfl))
    have g_m : Blk w_3 (g) 28 #[.bool false, .slice A1 M e1, .slice none 0 0, .slice A3 (M + 1) e3] := by
      refine Blk.kept ?_ hb_3
      (repeat (first | with_reducible assumption | (with_reducible refine Blk.new' ?_; first | with_reducible rfl | (simp; done)) | with_reducible refine Blk.alloc ?_ _ | with_reducible refine Blk.grow ?_ _ | with_reducible refine Blk.drew ?_ | with_reducible refine Blk.drewN ?_ _ | (with_reducible refine Blk.far ?_ (by first | (dsimp only; omega) | (simp; omega)) _) | (with_reducible apply Blk.two) | (with_reducible refine Blk.set' ?_ _ _ ?_) | (with_reducible rfl) | rfl))
    clear f_r r_l r_0 r_1 r_2 r_3 r_f0 r_f1 r_f2 r_f3 f_n n_l n_0 n_1 n_2 n_3 n_f0 n_f1 n_f2 n_f3 t_r hB_2 hb_3
    have f_r := g_r
    clear g_r
    have f_m := g_m
    clear g_m
    have r_0 : w_3.cell? ⟨w.heap.size, 0, none⟩ = some (.bool false) := (f_r).cell 0
    have r_1 : w_3.cell? ⟨w.heap.size, 1, none⟩ = some (.slice none 0 0) := (f_r).cell 1
    have r_2 : w_3.cell? ⟨w.heap.size, 2, none⟩ = some (.slice none 0 0) := (f_r).cell 2
    have r_3 : w_3.cell? ⟨w.heap.size, 3, none⟩ = some (.slice none 0 0) := (f_r).cell 3
    have r_f0 := (f_r).frozen 0
    have r_f1 := (f_r).frozen 1
    have r_f2 := (f_r).frozen 2
    have r_f3 := (f_r).frozen 3
    have r_l := (f_r).lt
    replace f_r := Lib.hid f_r
    have m_0 : w_3.cell? ⟨g, 0, none⟩ = some (.bool false) := (f_m).cell 0
    have m_1 : w_3.cell? ⟨g, 1, none⟩ = some (.slice A1 M e1) := (f_m).cell 1
    have m_2 : w_3.cell? ⟨g, 2, none⟩ = some (.slice none 0 0) := (f_m).cell 2
    have m_3 : w_3.cell? ⟨g, 3, none⟩ = some (.slice A3 (M + 1) e3) := (f_m).cell 3
    have m_f0 := (f_m).frozen 0
    have m_f1 := (f_m).frozen 1
    have m_f2 := (f_m).frozen 2
    have m_f3 := (f_m).frozen 3
    have m_l := (f_m).lt
    replace f_m := Lib.hid f_m
    replace hB_3 := Lib.hid hB_3
    clear q4
    go_wp2_with fail
    refine abs_post (fun Y_ => Below w.heap.size w Y_ ∧ Blk Y_ w.heap.size 28 #[.bool false, .slice none 0 0, .slice none 0 0, .slice none 0 0]) ⟨by have t_B := hB_3.out; (repeat (first | with_reducible exact Below.refl _ _ | with_reducible assumption | (with_reducible refine bel_set ?_ (by first | exact Nat.le_refl _ | (simp; done) | (simp; omega) | omega) _) | with_reducible refine bel_grow ?_ _ | with_reducible refine Below.drew ?_ | with_reducible refine below_drewN ?_ _ | with_reducible refine bel_alloc ?_ _ | with_reducible refine bel_trans ?_ (by assumption))), Blk.four f_r.out _ _ _ _⟩ ?_
    rintro Y_ ⟨bZ_, gP_⟩
    have p_0 := gP_.cell 0
    have p_1 := gP_.cell 1
    have p_2 := gP_.cell 2
    have p_3 := gP_.cell 3
    have p_l := gP_.lt
    refine bodyPost_ret (v := .tuple #[.agg #[.bool false, .slice none 0 0, .slice none 0 0, .slice none 0 0], .int .i64 2]) (by simp [results, Try.results20, go_sem, p_0, p_1, p_2, p_3, p_l]) rfl ⟨rfl, bZ_⟩

set_option maxRecDepth 8000 in
set_option maxHeartbeats 4000000 in
theorem read_inner_yes (B : Option Addr) (l c k v : Nat) (y : Nat → Int) (w : World) (hy : ∀ i, 0 ≤ y i ∧ y i < 256) (hk : 1 ≤ k ∧ k ≤ 24) (hv : v ≤ 108) (hl : 2 ≤ l ∧ l ≤ 500) (hlc : l ≤ c) (hc : c ≤ maxLen) (hs : SlIs w B l (yV y)) (M : Nat) (hM : cntY y = M + 1) (hyes : l - 2 = 4 + M * 4 + M * k) (hq : rightB (ndI k y M) k v = true) :
    Calls Try.prog 20 #[.int .u8 4, .slice B l c, .int .i64 k, .int .i64 v] w fun e w' => ∃ A1 e1 A3 e3, e = .returned (.tuple #[.agg #[.bool false, .slice A1 M e1, .slice none 0 0, .slice A3 (M + 1) e3], .int .i64 0]) ∧ NdIs w' A1 none A3 (ndI k y M) ∧ Below w.heap.size w w' := by
  have HL := fun A m c' W (h : m = l - 2) (h2 : m ≤ c') (h3 : c' ≤ maxLen) (h4 : SlIs W A m (yV (shf y 2))) => inner_yes A m c' M k (shf y 2) W (h.trans hyes) (by omega) hk h2 h3 (fun i => hy _) h4
  simp only [shf_shf] at HL
  have hcb : M ≤ 498 := by omega
  have HQ := fun KA CA kc cc W (hN : RsIs W KA M (fun _ => k) (fun i => shf y (2 + (4 + M * 4 + i * k))) ∧ SlIs W CA (M + 1) (fun i => .int .u32 (num (shf y 2) (i * 4) 4))) => right_any false KA none CA M kc 0 0 (M + 1) cc (fun _ => k) (fun _ => 0) (fun i => shf y (2 + (4 + M * 4 + i * k))) (fun _ _ => 0) (fun i => num (shf y 2) (i * 4) 4) k v W ⟨hN.1, RsIs.nil, hN.2, by show M ≤ 1000000; omega, by show 0 ≤ 1000000; omega, by show M + 1 ≤ 1000000; omega⟩
  rw [show rightB ⟨false, M, fun _ => k, fun i => shf y (2 + (4 + M * 4 + i * k)), 0, fun _ => 0, fun _ _ => 0, M + 1, fun i => num (shf y 2) (i * 4) 4⟩ (k : Int) (v : Int) = true from hq] at HQ
  replace HQ := Lib.hid HQ
  replace HL := Lib.hid HL
  clear hyes hq
  have HC := Lib.hid (fun w => caps_any (k : Int) (v : Int) w)
  have hb0 := Below.refl w.heap.size w
  have h1 : (capL (k : Int) (v : Int) == 0) = false := by simpa using capL_pos hk hv
  have h2 : decide ((l : Int) < 2) = false := decide_eq_false (by omega)
  have h3 : decide ((500 : Int) < (l : Int)) = false := decide_eq_false (by omega)
  obtain ⟨b, o, rfl, hbl, hcl⟩ := hs (by omega)
  have y0 : w.cell? ⟨b, o, none⟩ = some (.int .u8 (y 0)) := hcl 0 (by omega)
  have y1 : w.cell? ⟨b, o + 1, none⟩ = some (.int .u8 (y 1)) := hcl 1 (by omega)
  have yb0 := hy 0
  have yb1 := hy 1
  have hor := or2_cnt y hy
  have hN6 := cntY_lt y hy
  generalize cntY y = N at *
  replace hor := Lib.hid hor
  replace hy := Lib.hid hy
  replace hs := Lib.hid hs
  clear hcl
  generalize capL (k : Int) (v : Int) = cl at *
  generalize capI (k : Int) (v : Int) = ci at *
  unfold maxLen at hc
  rw [hM] at hor
  rw [show ((M + 1 : Nat) : Int) = (M : Int) + 1 by omega] at hor
  clear hM
  by_cases hc2 : c = 2
  · obtain rfl : l = 2 := by omega
    subst hc2
    go_enter Try.func20, Try.ntmps20
    replace hb0 := Lib.hid hb0
    go_wp2_with fail
    refine (HC.out _).mono ?_
    rintro e w_1 ⟨rfl, hb_1⟩
    have z_1 := hb_1.size
    try simp at z_1
    have t_ := hb0.out
    have hB_1 := bel_eld (w := w) (X := _) (by first | ((repeat (first | with_reducible exact Below.refl _ _ | with_reducible assumption | (with_reducible refine bel_set ?_ (by first | exact Nat.le_refl _ | (simp; done) | (simp; omega) | omega) _) | with_reducible refine bel_grow ?_ _ | with_reducible refine Below.drew ?_ | with_reducible refine below_drewN ?_ _ | with_reducible refine bel_alloc ?_ _ | with_reducible refine bel_trans ?_ (by assumption))); done) | (repeat (first | exact Below.refl _ _ | assumption | refine below_drewN ?_ _ | refine bel_grow ?_ _ | refine Below.drew ?_ | refine bel_alloc ?_ _ | refine bel_set ?_ (by first | exact Nat.le_refl _ | (simp; done) | (simp; omega) | omega) _ | refine bel_trans ?_ (by assumption)))) hb_1
    clear t_
    have g_r : Blk w_1 (w.heap.size) 28 #[.bool false, .slice none 0 0, .slice none 0 0, .slice none 0 0] := by
      refine Blk.kept ?_ hb_1
      (repeat (first | with_reducible assumption | (with_reducible refine Blk.new' ?_; first | with_reducible rfl | (simp; done)) | with_reducible refine Blk.alloc ?_ _ | with_reducible refine Blk.grow ?_ _ | with_reducible refine Blk.drew ?_ | with_reducible refine Blk.drewN ?_ _ | (with_reducible refine Blk.far ?_ (by first | (dsimp only; omega) | (simp; omega)) _) | (with_reducible apply Blk.two) | (with_reducible refine Blk.set' ?_ _ _ ?_) | (with_reducible rfl) | rfl))
    clear hb0 hb_1
    have f_r := g_r
    clear g_r
    have r_0 : w_1.cell? ⟨w.heap.size, 0, none⟩ = some (.bool false) := (f_r).cell 0
    have r_1 : w_1.cell? ⟨w.heap.size, 1, none⟩ = some (.slice none 0 0) := (f_r).cell 1
    have r_2 : w_1.cell? ⟨w.heap.size, 2, none⟩ = some (.slice none 0 0) := (f_r).cell 2
    have r_3 : w_1.cell? ⟨w.heap.size, 3, none⟩ = some (.slice none 0 0) := (f_r).cell 3
    have r_f0 := (f_r).frozen 0
    have r_f1 := (f_r).frozen 1
    have r_f2 := (f_r).frozen 2
    have r_f3 := (f_r).frozen 3
    have r_l := (f_r).lt
    replace f_r := Lib.hid f_r
    replace hB_1 := Lib.hid hB_1
    have y0' := keepc hB_1.out y0
    have y1' := keepc hB_1.out y1
    have hb1' : b < w_1.heap.size := Nat.lt_of_lt_of_le hbl hB_1.out.size
    go_upto_region 4 with fail
    first | (with_reducible refine rgrow2 (by kernel_rfl) (by kernel_rfl) ?_) | (refine rgrow (by kernel_rfl) (by kernel_rfl) ?_)
    repeat (go_big_quiet_step ((fail)))
    refine wpQuiet_nil ?_
    intro dr
    go_wp2_with fail
    rw [hor.out]
    refine (HL.out _ _ _ _ (by omega) (by omega) (by unfold maxLen; omega) (by first | exact SlIs.nil | exact (SlIs.from2 hs.out).below (by have t_B := hB_1.out; (repeat (first | with_reducible exact Below.refl _ _ | with_reducible assumption | (with_reducible refine bel_set ?_ (by first | exact Nat.le_refl _ | (simp; done) | (simp; omega) | omega) _) | with_reducible refine bel_grow ?_ _ | with_reducible refine Below.drew ?_ | with_reducible refine below_drewN ?_ _ | with_reducible refine bel_alloc ?_ _ | with_reducible refine bel_trans ?_ (by assumption)))))).mono ?_
    rintro e w_2 ⟨A1, e1, A3, e3, rfl, hR, hb_2⟩
    have hwg : w.heap.size < (Grow w_1 dr).heap.size := Nat.lt_of_lt_of_le r_l (grow_size w_1 dr)
    have hR2 := Lib.hid (fun Z (hZ : Above ((Grow w_1 dr).heap.size + 1) w_2 Z) => hR Z (by simpa using hZ))
    clear hR
    have z_2 := hb_2.size
    try simp at z_2
    have t_ := hB_1.out
    have hB_2 := bel_eld (w := w) (X := _) (by first | ((repeat (first | with_reducible exact Below.refl _ _ | with_reducible assumption | (with_reducible refine bel_set ?_ (by first | exact Nat.le_refl _ | (simp; done) | (simp; omega) | omega) _) | with_reducible refine bel_grow ?_ _ | with_reducible refine Below.drew ?_ | with_reducible refine below_drewN ?_ _ | with_reducible refine bel_alloc ?_ _ | with_reducible refine bel_trans ?_ (by assumption))); done) | (repeat (first | exact Below.refl _ _ | assumption | refine below_drewN ?_ _ | refine bel_grow ?_ _ | refine Below.drew ?_ | refine bel_alloc ?_ _ | refine bel_set ?_ (by first | exact Nat.le_refl _ | (simp; done) | (simp; omega) | omega) _ | refine bel_trans ?_ (by assumption)))) hb_2
    clear t_
    have t_r := f_r.out
    have g_r : Blk w_2 (w.heap.size) 28 #[.bool false, .slice none 0 0, .slice none 0 0, .slice none 0 0] := by
      refine Blk.kept ?_ hb_2
      (repeat (first | with_reducible assumption | (with_reducible refine Blk.new' ?_; first | with_reducible rfl | (simp; done)) | with_reducible refine Blk.alloc ?_ _ | with_reducible refine Blk.grow ?_ _ | with_reducible refine Blk.drew ?_ | with_reducible refine Blk.drewN ?_ _ | (with_reducible refine Blk.far ?_ (by first | (dsimp only; omega) | (simp; omega)) _) | (with_reducible apply Blk.two) | (with_reducible refine Blk.set' ?_ _ _ ?_) | (with_reducible rfl) | rfl))
    have g_n : Blk w_2 ((Grow w_1 dr).heap.size) 28 #[.bool false, .slice none 0 0, .slice none 0 0, .slice none 0 0] := by
      refine Blk.kept ?_ hb_2
      (repeat (first | with_reducible assumption | (with_reducible refine Blk.new' ?_; first | with_reducible rfl | (simp; done)) | with_reducible refine Blk.alloc ?_ _ | with_reducible refine Blk.grow ?_ _ | with_reducible refine Blk.drew ?_ | with_reducible refine Blk.drewN ?_ _ | (with_reducible refine Blk.far ?_ (by first | (dsimp only; omega) | (simp; omega)) _) | (with_reducible apply Blk.two) | (with_reducible refine Blk.set' ?_ _ _ ?_) | (with_reducible rfl) | rfl))
    clear f_r r_l r_0 r_1 r_2 r_3 r_f0 r_f1 r_f2 r_f3 t_r hB_1 hb_2
    have f_r := g_r
    clear g_r
    have f_n := g_n
    clear g_n
    have r_0 : w_2.cell? ⟨w.heap.size, 0, none⟩ = some (.bool false) := (f_r).cell 0
    have r_1 : w_2.cell? ⟨w.heap.size, 1, none⟩ = some (.slice none 0 0) := (f_r).cell 1
    have r_2 : w_2.cell? ⟨w.heap.size, 2, none⟩ = some (.slice none 0 0) := (f_r).cell 2
    have r_3 : w_2.cell? ⟨w.heap.size, 3, none⟩ = some (.slice none 0 0) := (f_r).cell 3
    have r_f0 := (f_r).frozen 0
    have r_f1 := (f_r).frozen 1
    have r_f2 := (f_r).frozen 2
    have r_f3 := (f_r).frozen 3
    have r_l := (f_r).lt
    replace f_r := Lib.hid f_r
    have n_0 : w_2.cell? ⟨(Grow w_1 dr).heap.size, 0, none⟩ = some (.bool false) := (f_n).cell 0
    have n_1 : w_2.cell? ⟨(Grow w_1 dr).heap.size, 1, none⟩ = some (.slice none 0 0) := (f_n).cell 1
    have n_2 : w_2.cell? ⟨(Grow w_1 dr).heap.size, 2, none⟩ = some (.slice none 0 0) := (f_n).cell 2
    have n_3 : w_2.cell? ⟨(Grow w_1 dr).heap.size, 3, none⟩ = some (.slice none 0 0) := (f_n).cell 3
    have n_f0 := (f_n).frozen 0
    have n_f1 := (f_n).frozen 1
    have n_f2 := (f_n).frozen 2
    have n_f3 := (f_n).frozen 3
    have n_l := (f_n).lt
    replace f_n := Lib.hid f_n
    replace hB_2 := Lib.hid hB_2
    generalize (Grow w_1 dr).heap.size = g at *
    have hn1 : (w.heap.size = g) = False := by simp; omega
    have hn2 : (g = w.heap.size) = False := by simp; omega
    go_wp2_with fail
    have q4 := Blk.four f_n.out (.bool false) (.slice A1 M e1) (.slice none 0 0) (.slice A3 (M + 1) e3)
    refine (HQ.out A1 A3 _ _ _ (hR2.out _ (((((Above.refl (g + 1) w_2).set (p := ⟨g, 0, none⟩) (by dsimp only; omega) _).set (p := ⟨g, 1, none⟩) (by dsimp only; omega) _).set (p := ⟨g, 2, none⟩) (by dsimp only; omega) _).set (p := ⟨g, 3, none⟩) (by dsimp only; omega) _))).mono ?_
    rintro e w_3 ⟨rfl, hb_3⟩
    have kb3 := Lib.hid hb_3
    have z_3 := hb_3.size
    try simp at z_3
    have t_ := hB_2.out
    have hB_3 := bel_eld (w := w) (X := _) (by first | ((repeat (first | with_reducible exact Below.refl _ _ | with_reducible assumption | (with_reducible refine bel_set ?_ (by first | exact Nat.le_refl _ | (simp; done) | (simp; omega) | omega) _) | with_reducible refine bel_grow ?_ _ | with_reducible refine Below.drew ?_ | with_reducible refine below_drewN ?_ _ | with_reducible refine bel_alloc ?_ _ | with_reducible refine bel_trans ?_ (by assumption))); done) | (repeat (first | exact Below.refl _ _ | assumption | refine below_drewN ?_ _ | refine bel_grow ?_ _ | refine Below.drew ?_ | refine bel_alloc ?_ _ | refine bel_set ?_ (by first | exact Nat.le_refl _ | (simp; done) | (simp; omega) | omega) _ | refine bel_trans ?_ (by assumption)))) hb_3
    clear t_
    have t_r := f_r.out
    have g_r : Blk w_3 (w.heap.size) 28 #[.bool false, .slice none 0 0, .slice none 0 0, .slice none 0 0] := by
      refine Blk.kept ?_ hb_3
      (repeat (first | with_reducible assumption | (with_reducible refine Blk.new' ?_; first | with_reducible rfl | (simp; done)) | with_reducible refine Blk.alloc ?_ _ | with_reducible refine Blk.grow ?_ _ | with_reducible refine Blk.drew ?_ | with_reducible refine Blk.drewN ?_ _ | (with_reducible refine Blk.far ?_ (by first | (dsimp only; omega) | (simp; omega)) _) | (with_reducible apply Blk.two) | (with_reducible refine Blk.set' ?_ _ _ ?_) | (with_reducible rfl) | rfl))
    have g_m : Blk w_3 (g) 28 #[.bool false, .slice A1 M e1, .slice none 0 0, .slice A3 (M + 1) e3] := by
      refine Blk.kept ?_ hb_3
      (repeat (first | with_reducible assumption | (with_reducible refine Blk.new' ?_; first | with_reducible rfl | (simp; done)) | with_reducible refine Blk.alloc ?_ _ | with_reducible refine Blk.grow ?_ _ | with_reducible refine Blk.drew ?_ | with_reducible refine Blk.drewN ?_ _ | (with_reducible refine Blk.far ?_ (by first | (dsimp only; omega) | (simp; omega)) _) | (with_reducible apply Blk.two) | (with_reducible refine Blk.set' ?_ _ _ ?_) | (with_reducible rfl) | rfl))
    clear f_r r_l r_0 r_1 r_2 r_3 r_f0 r_f1 r_f2 r_f3 f_n n_l n_0 n_1 n_2 n_3 n_f0 n_f1 n_f2 n_f3 t_r hB_2 hb_3
    have f_r := g_r
    clear g_r
    have f_m := g_m
    clear g_m
    have r_0 : w_3.cell? ⟨w.heap.size, 0, none⟩ = some (.bool false) := (f_r).cell 0
    have r_1 : w_3.cell? ⟨w.heap.size, 1, none⟩ = some (.slice none 0 0) := (f_r).cell 1
    have r_2 : w_3.cell? ⟨w.heap.size, 2, none⟩ = some (.slice none 0 0) := (f_r).cell 2
    have r_3 : w_3.cell? ⟨w.heap.size, 3, none⟩ = some (.slice none 0 0) := (f_r).cell 3
    have r_f0 := (f_r).frozen 0
    have r_f1 := (f_r).frozen 1
    have r_f2 := (f_r).frozen 2
    have r_f3 := (f_r).frozen 3
    have r_l := (f_r).lt
    replace f_r := Lib.hid f_r
    have m_0 : w_3.cell? ⟨g, 0, none⟩ = some (.bool false) := (f_m).cell 0
    have m_1 : w_3.cell? ⟨g, 1, none⟩ = some (.slice A1 M e1) := (f_m).cell 1
    have m_2 : w_3.cell? ⟨g, 2, none⟩ = some (.slice none 0 0) := (f_m).cell 2
    have m_3 : w_3.cell? ⟨g, 3, none⟩ = some (.slice A3 (M + 1) e3) := (f_m).cell 3
    have m_f0 := (f_m).frozen 0
    have m_f1 := (f_m).frozen 1
    have m_f2 := (f_m).frozen 2
    have m_f3 := (f_m).frozen 3
    have m_l := (f_m).lt
    replace f_m := Lib.hid f_m
    replace hB_3 := Lib.hid hB_3
    clear q4
    go_wp2_with fail
    refine abs_post (fun Y_ => Below w.heap.size w Y_ ∧ Blk Y_ w.heap.size 28 #[.bool false, .slice A1 M e1, .slice none 0 0, .slice A3 (M + 1) e3] ∧ Above (g + 1) w_2 Y_) ⟨by have t_B := hB_3.out; (repeat (first | with_reducible exact Below.refl _ _ | with_reducible assumption | (with_reducible refine bel_set ?_ (by first | exact Nat.le_refl _ | (simp; done) | (simp; omega) | omega) _) | with_reducible refine bel_grow ?_ _ | with_reducible refine Below.drew ?_ | with_reducible refine below_drewN ?_ _ | with_reducible refine bel_alloc ?_ _ | with_reducible refine bel_trans ?_ (by assumption))), Blk.four f_r.out _ _ _ _, (((((((((Above.refl (g + 1) w_2).set (p := ⟨g, 0, none⟩) (by dsimp only; omega) _).set (p := ⟨g, 1, none⟩) (by dsimp only; omega) _).set (p := ⟨g, 2, none⟩) (by dsimp only; omega) _).set (p := ⟨g, 3, none⟩) (by dsimp only; omega) _).trans (Above.below kb3.out)).set (p := ⟨w.heap.size, 0, none⟩) (by dsimp only; omega) _).set (p := ⟨w.heap.size, 1, none⟩) (by dsimp only; omega) _).set (p := ⟨w.heap.size, 2, none⟩) (by dsimp only; omega) _).set (p := ⟨w.heap.size, 3, none⟩) (by dsimp only; omega) _⟩ ?_
    rintro Y_ ⟨bZ_, gP_, aZ_⟩
    have p_0 := gP_.cell 0
    have p_1 := gP_.cell 1
    have p_2 := gP_.cell 2
    have p_3 := gP_.cell 3
    have p_l := gP_.lt
    refine bodyPost_ret (v := .tuple #[.agg #[.bool false, .slice A1 M e1, .slice none 0 0, .slice A3 (M + 1) e3], .int .i64 0]) (by simp [results, Try.results20, go_sem, p_0, p_1, p_2, p_3, p_l]) rfl ⟨A1, e1, A3, e3, rfl, ⟨(hR2.out _ aZ_).1, RsIs.nil, (hR2.out _ aZ_).2, by show M ≤ 1000000; omega, by show 0 ≤ 1000000; omega, by show M + 1 ≤ 1000000; omega⟩, bZ_⟩
  · have hc2' : ¬ (2 : Nat) = c := by omega
    have hc2i : ¬ (2 : Int) = (c : Int) := by omega
    go_enter Try.func20, Try.ntmps20
    replace hb0 := Lib.hid hb0
    go_wp2_with fail
    refine (HC.out _).mono ?_
    rintro e w_1 ⟨rfl, hb_1⟩
    have z_1 := hb_1.size
    try simp at z_1
    have t_ := hb0.out
    have hB_1 := bel_eld (w := w) (X := _) (by first | ((repeat (first | with_reducible exact Below.refl _ _ | with_reducible assumption | (with_reducible refine bel_set ?_ (by first | exact Nat.le_refl _ | (simp; done) | (simp; omega) | omega) _) | with_reducible refine bel_grow ?_ _ | with_reducible refine Below.drew ?_ | with_reducible refine below_drewN ?_ _ | with_reducible refine bel_alloc ?_ _ | with_reducible refine bel_trans ?_ (by assumption))); done) | (repeat (first | exact Below.refl _ _ | assumption | refine below_drewN ?_ _ | refine bel_grow ?_ _ | refine Below.drew ?_ | refine bel_alloc ?_ _ | refine bel_set ?_ (by first | exact Nat.le_refl _ | (simp; done) | (simp; omega) | omega) _ | refine bel_trans ?_ (by assumption)))) hb_1
    clear t_
    have g_r : Blk w_1 (w.heap.size) 28 #[.bool false, .slice none 0 0, .slice none 0 0, .slice none 0 0] := by
      refine Blk.kept ?_ hb_1
      (repeat (first | with_reducible assumption | (with_reducible refine Blk.new' ?_; first | with_reducible rfl | (simp; done)) | with_reducible refine Blk.alloc ?_ _ | with_reducible refine Blk.grow ?_ _ | with_reducible refine Blk.drew ?_ | with_reducible refine Blk.drewN ?_ _ | (with_reducible refine Blk.far ?_ (by first | (dsimp only; omega) | (simp; omega)) _) | (with_reducible apply Blk.two) | (with_reducible refine Blk.set' ?_ _ _ ?_) | (with_reducible rfl) | rfl))
    clear hb0 hb_1
    have f_r := g_r
    clear g_r
    have r_0 : w_1.cell? ⟨w.heap.size, 0, none⟩ = some (.bool false) := (f_r).cell 0
    have r_1 : w_1.cell? ⟨w.heap.size, 1, none⟩ = some (.slice none 0 0) := (f_r).cell 1
    have r_2 : w_1.cell? ⟨w.heap.size, 2, none⟩ = some (.slice none 0 0) := (f_r).cell 2
    have r_3 : w_1.cell? ⟨w.heap.size, 3, none⟩ = some (.slice none 0 0) := (f_r).cell 3
    have r_f0 := (f_r).frozen 0
    have r_f1 := (f_r).frozen 1
    have r_f2 := (f_r).frozen 2
    have r_f3 := (f_r).frozen 3
    have r_l := (f_r).lt
    replace f_r := Lib.hid f_r
    replace hB_1 := Lib.hid hB_1
    have y0' := keepc hB_1.out y0
    have y1' := keepc hB_1.out y1
    have hb1' : b < w_1.heap.size := Nat.lt_of_lt_of_le hbl hB_1.out.size
    go_upto_region 4 with fail
    first | (with_reducible refine rgrow2 (by kernel_rfl) (by kernel_rfl) ?_) | (refine rgrow (by kernel_rfl) (by kernel_rfl) ?_)
    repeat (go_big_quiet_step ((fail)))
    refine wpQuiet_nil ?_
    intro dr
    go_wp2_with fail
    rw [hor.out]
    refine (HL.out _ _ _ _ (by omega) (by omega) (by unfold maxLen; omega) (by first | exact SlIs.nil | exact (SlIs.from2 hs.out).below (by have t_B := hB_1.out; (repeat (first | with_reducible exact Below.refl _ _ | with_reducible assumption | (with_reducible refine bel_set ?_ (by first | exact Nat.le_refl _ | (simp; done) | (simp; omega) | omega) _) | with_reducible refine bel_grow ?_ _ | with_reducible refine Below.drew ?_ | with_reducible refine below_drewN ?_ _ | with_reducible refine bel_alloc ?_ _ | with_reducible refine bel_trans ?_ (by assumption)))))).mono ?_
    rintro e w_2 ⟨A1, e1, A3, e3, rfl, hR, hb_2⟩
    have hwg : w.heap.size < (Grow w_1 dr).heap.size := Nat.lt_of_lt_of_le r_l (grow_size w_1 dr)
    have hR2 := Lib.hid (fun Z (hZ : Above ((Grow w_1 dr).heap.size + 1) w_2 Z) => hR Z (by simpa using hZ))
    clear hR
    have z_2 := hb_2.size
    try simp at z_2
    have t_ := hB_1.out
    have hB_2 := bel_eld (w := w) (X := _) (by first | ((repeat (first | with_reducible exact Below.refl _ _ | with_reducible assumption | (with_reducible refine bel_set ?_ (by first | exact Nat.le_refl _ | (simp; done) | (simp; omega) | omega) _) | with_reducible refine bel_grow ?_ _ | with_reducible refine Below.drew ?_ | with_reducible refine below_drewN ?_ _ | with_reducible refine bel_alloc ?_ _ | with_reducible refine bel_trans ?_ (by assumption))); done) | (repeat (first | exact Below.refl _ _ | assumption | refine below_drewN ?_ _ | refine bel_grow ?_ _ | refine Below.drew ?_ | refine bel_alloc ?_ _ | refine bel_set ?_ (by first | exact Nat.le_refl _ | (simp; done) | (simp; omega) | omega) _ | refine bel_trans ?_ (by assumption)))) hb_2
    clear t_
    have t_r := f_r.out
    have g_r : Blk w_2 (w.heap.size) 28 #[.bool false, .slice none 0 0, .slice none 0 0, .slice none 0 0] := by
      refine Blk.kept ?_ hb_2
      (repeat (first | with_reducible assumption | (with_reducible refine Blk.new' ?_; first | with_reducible rfl | (simp; done)) | with_reducible refine Blk.alloc ?_ _ | with_reducible refine Blk.grow ?_ _ | with_reducible refine Blk.drew ?_ | with_reducible refine Blk.drewN ?_ _ | (with_reducible refine Blk.far ?_ (by first | (dsimp only; omega) | (simp; omega)) _) | (with_reducible apply Blk.two) | (with_reducible refine Blk.set' ?_ _ _ ?_) | (with_reducible rfl) | rfl))
    have g_n : Blk w_2 ((Grow w_1 dr).heap.size) 28 #[.bool false, .slice none 0 0, .slice none 0 0, .slice none 0 0] := by
      refine Blk.kept ?_ hb_2
      (repeat (first | with_reducible assumption | (with_reducible refine Blk.new' ?_; first | with_reducible rfl | (simp; done)) | with_reducible refine Blk.alloc ?_ _ | with_reducible refine Blk.grow ?_ _ | with_reducible refine Blk.drew ?_ | with_reducible refine Blk.drewN ?_ _ | (with_reducible refine Blk.far ?_ (by first | (dsimp only; omega) | (simp; omega)) _) | (with_reducible apply Blk.two) | (with_reducible refine Blk.set' ?_ _ _ ?_) | (with_reducible rfl) | rfl))
    clear f_r r_l r_0 r_1 r_2 r_3 r_f0 r_f1 r_f2 r_f3 t_r hB_1 hb_2
    have f_r := g_r
    clear g_r
    have f_n := g_n
    clear g_n
    have r_0 : w_2.cell? ⟨w.heap.size, 0, none⟩ = some (.bool false) := (f_r).cell 0
    have r_1 : w_2.cell? ⟨w.heap.size, 1, none⟩ = some (.slice none 0 0) := (f_r).cell 1
    have r_2 : w_2.cell? ⟨w.heap.size, 2, none⟩ = some (.slice none 0 0) := (f_r).cell 2
    have r_3 : w_2.cell? ⟨w.heap.size, 3, none⟩ = some (.slice none 0 0) := (f_r).cell 3
    have r_f0 := (f_r).frozen 0
    have r_f1 := (f_r).frozen 1
    have r_f2 := (f_r).frozen 2
    have r_f3 := (f_r).frozen 3
    have r_l := (f_r).lt
    replace f_r := Lib.hid f_r
    have n_0 : w_2.cell? ⟨(Grow w_1 dr).heap.size, 0, none⟩ = some (.bool false) := (f_n).cell 0
    have n_1 : w_2.cell? ⟨(Grow w_1 dr).heap.size, 1, none⟩ = some (.slice none 0 0) := (f_n).cell 1
    have n_2 : w_2.cell? ⟨(Grow w_1 dr).heap.size, 2, none⟩ = some (.slice none 0 0) := (f_n).cell 2
    have n_3 : w_2.cell? ⟨(Grow w_1 dr).heap.size, 3, none⟩ = some (.slice none 0 0) := (f_n).cell 3
    have n_f0 := (f_n).frozen 0
    have n_f1 := (f_n).frozen 1
    have n_f2 := (f_n).frozen 2
    have n_f3 := (f_n).frozen 3
    have n_l := (f_n).lt
    replace f_n := Lib.hid f_n
    replace hB_2 := Lib.hid hB_2
    generalize (Grow w_1 dr).heap.size = g at *
    have hn1 : (w.heap.size = g) = False := by simp; omega
    have hn2 : (g = w.heap.size) = False := by simp; omega
    go_wp2_with fail
    have q4 := Blk.four f_n.out (.bool false) (.slice A1 M e1) (.slice none 0 0) (.slice A3 (M + 1) e3)
    refine (HQ.out A1 A3 _ _ _ (hR2.out _ (((((Above.refl (g + 1) w_2).set (p := ⟨g, 0, none⟩) (by dsimp only; omega) _).set (p := ⟨g, 1, none⟩) (by dsimp only; omega) _).set (p := ⟨g, 2, none⟩) (by dsimp only; omega) _).set (p := ⟨g, 3, none⟩) (by dsimp only; omega) _))).mono ?_
    rintro e w_3 ⟨rfl, hb_3⟩
    have kb3 := Lib.hid hb_3
    have z_3 := hb_3.size
    try simp at z_3
    have t_ := hB_2.out
    have hB_3 := bel_eld (w := w) (X := _) (by first | ((repeat (first | with_reducible exact Below.refl _ _ | with_reducible assumption | (with_reducible refine bel_set ?_ (by first | exact Nat.le_refl _ | (simp; done) | (simp; omega) | omega) _) | with_reducible refine bel_grow ?_ _ | with_reducible refine Below.drew ?_ | with_reducible refine below_drewN ?_ _ | with_reducible refine bel_alloc ?_ _ | with_reducible refine bel_trans ?_ (by assumption))); done) | (repeat (first | exact Below.refl _ _ | assumption | refine below_drewN ?_ _ | refine bel_grow ?_ _ | refine Below.drew ?_ | refine bel_alloc ?_ _ | refine bel_set ?_ (by first | exact Nat.le_refl _ | (simp; done) | (simp; omega) | omega) _ | refine bel_trans ?_ (by assumption)))) hb_3
    clear t_
    have t_r := f_r.out
    have g_r : Blk w_3 (w.heap.size) 28 #[.bool false, .slice none 0 0, .slice none 0 0, .slice none 0 0] := by
      refine Blk.kept ?_ hb_3
      (repeat (first | with_reducible assumption | (with_reducible refine Blk.new' ?_; first | with_reducible rfl | (simp; done)) | with_reducible refine Blk.alloc ?_ _ | with_reducible refine Blk.grow ?_ _ | with_reducible refine Blk.drew ?_ | with_reducible refine Blk.drewN ?_ _ | (with_reducible refine Blk.far ?_ (by first | (dsimp only; omega) | (simp; omega)) _) | (with_reducible apply Blk.two) | (with_reducible refine Blk.set' ?_ _ _ ?_) | (with_reducible rfl) | rfl))
    have g_m : Blk w_3 (g) 28 #[.bool false, .slice A1 M e1, .slice none 0 0, .slice A3 (M + 1) e3] := by
      refine Blk.kept ?_ hb_3
      (repeat (first | with_reducible assumption | (with_reducible refine Blk.new' ?_; first | with_reducible rfl | (simp; done)) | with_reducible refine Blk.alloc ?_ _ | with_reducible refine Blk.grow ?_ _ | with_reducible refine Blk.drew ?_ | with_reducible refine Blk.drewN ?_ _ | (with_reducible refine Blk.far ?_ (by first | (dsimp only; omega) | (simp; omega)) _) | (with_reducible apply Blk.two) | (with_reducible refine Blk.set' ?_ _ _ ?_) | (with_reducible rfl) | rfl))
    clear f_r r_l r_0 r_1 r_2 r_3 r_f0 r_f1 r_f2 r_f3 f_n n_l n_0 n_1 n_2 n_3 n_f0 n_f1 n_f2 n_f3 t_r hB_2 hb_3
    have f_r := g_r
    clear g_r
    have f_m := g_m
    clear g_m
    have r_0 : w_3.cell? ⟨w.heap.size, 0, none⟩ = some (.bool false) := (f_r).cell 0
    have r_1 : w_3.cell? ⟨w.heap.size, 1, none⟩ = some (.slice none 0 0) := (f_r).cell 1
    have r_2 : w_3.cell? ⟨w.heap.size, 2, none⟩ = some (.slice none 0 0) := (f_r).cell 2
    have r_3 : w_3.cell? ⟨w.heap.size, 3, none⟩ = some (.slice none 0 0) := (f_r).cell 3
    have r_f0 := (f_r).frozen 0
    have r_f1 := (f_r).frozen 1
    have r_f2 := (f_r).frozen 2
    have r_f3 := (f_r).frozen 3
    have r_l := (f_r).lt
    replace f_r := Lib.hid f_r
    have m_0 : w_3.cell? ⟨g, 0, none⟩ = some (.bool false) := (f_m).cell 0
    have m_1 : w_3.cell? ⟨g, 1, none⟩ = some (.slice A1 M e1) := (f_m).cell 1
    have m_2 : w_3.cell? ⟨g, 2, none⟩ = some (.slice none 0 0) := (f_m).cell 2
    have m_3 : w_3.cell? ⟨g, 3, none⟩ = some (.slice A3 (M + 1) e3) := (f_m).cell 3
    have m_f0 := (f_m).frozen 0
    have m_f1 := (f_m).frozen 1
    have m_f2 := (f_m).frozen 2
    have m_f3 := (f_m).frozen 3
    have m_l := (f_m).lt
    replace f_m := Lib.hid f_m
    replace hB_3 := Lib.hid hB_3
    clear q4
    go_wp2_with fail
    refine abs_post (fun Y_ => Below w.heap.size w Y_ ∧ Blk Y_ w.heap.size 28 #[.bool false, .slice A1 M e1, .slice none 0 0, .slice A3 (M + 1) e3] ∧ Above (g + 1) w_2 Y_) ⟨by have t_B := hB_3.out; (repeat (first | with_reducible exact Below.refl _ _ | with_reducible assumption | (with_reducible refine bel_set ?_ (by first | exact Nat.le_refl _ | (simp; done) | (simp; omega) | omega) _) | with_reducible refine bel_grow ?_ _ | with_reducible refine Below.drew ?_ | with_reducible refine below_drewN ?_ _ | with_reducible refine bel_alloc ?_ _ | with_reducible refine bel_trans ?_ (by assumption))), Blk.four f_r.out _ _ _ _, (((((((((Above.refl (g + 1) w_2).set (p := ⟨g, 0, none⟩) (by dsimp only; omega) _).set (p := ⟨g, 1, none⟩) (by dsimp only; omega) _).set (p := ⟨g, 2, none⟩) (by dsimp only; omega) _).set (p := ⟨g, 3, none⟩) (by dsimp only; omega) _).trans (Above.below kb3.out)).set (p := ⟨w.heap.size, 0, none⟩) (by dsimp only; omega) _).set (p := ⟨w.heap.size, 1, none⟩) (by dsimp only; omega) _).set (p := ⟨w.heap.size, 2, none⟩) (by dsimp only; omega) _).set (p := ⟨w.heap.size, 3, none⟩) (by dsimp only; omega) _⟩ ?_
    rintro Y_ ⟨bZ_, gP_, aZ_⟩
    have p_0 := gP_.cell 0
    have p_1 := gP_.cell 1
    have p_2 := gP_.cell 2
    have p_3 := gP_.cell 3
    have p_l := gP_.lt
    refine bodyPost_ret (v := .tuple #[.agg #[.bool false, .slice A1 M e1, .slice none 0 0, .slice A3 (M + 1) e3], .int .i64 0]) (by simp [results, Try.results20, go_sem, p_0, p_1, p_2, p_3, p_l]) rfl ⟨A1, e1, A3, e3, rfl, ⟨(hR2.out _ aZ_).1, RsIs.nil, (hR2.out _ aZ_).2, by show M ≤ 1000000; omega, by show 0 ≤ 1000000; omega, by show M + 1 ≤ 1000000; omega⟩, bZ_⟩

end Go.Proofs.Ytbmdnifkjcimcaa
