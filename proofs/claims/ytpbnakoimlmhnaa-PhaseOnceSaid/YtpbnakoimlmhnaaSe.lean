/-
  The example of layer 20.
-/
import Derived.Test.YtpbnakoimlmhnaaSd
namespace Go.Proofs.Ytpbnakoimlmhnaa
set_option linter.unusedVariables false
set_option linter.unusedSimpArgs false
open Go.RowKit

theorem arr_lit {α : Type} {a : Array α} {l : List α} (h : a.toList = l) : a = l.toArray := by cases a; simp_all
def bTrA (e : Result Next) (w : World) (v0 v1 v2 v3 : Value) : Result Next :=
  match v0, v1, v2, v3 with
  | .agg a0, .int .u16 s1, .int .u32 s2, .int .u64 s3 => match a0.toList with
    | [c0_0, c0_1] => .ok (.value (.agg #[c0_0, c0_1, .int .u64 0, .int .u64 0, .int .u64 0, .int .u64 0, .int .u64 0, .int .u64 0, .int .u64 0, .int .u64 0, .int .u64 0, .int .u32 s2, .int .u32 0, .int .u16 0, .int .u16 s1, .int .u64 s3])) w
    | _ => e
  | _, _, _, _ => e
theorem bTrA_is (e : Result Next) (w : World) (c0_0 c0_1 : Value) (s1 : Int) (s2 : Int) (s3 : Int) : bTrA e w (.agg #[c0_0, c0_1]) (.int .u16 s1) (.int .u32 s2) (.int .u64 s3) = .ok (.value (.agg #[c0_0, c0_1, .int .u64 0, .int .u64 0, .int .u64 0, .int .u64 0, .int .u64 0, .int .u64 0, .int .u64 0, .int .u64 0, .int .u64 0, .int .u32 s2, .int .u32 0, .int .u16 0, .int .u16 s1, .int .u64 s3])) w := rfl
theorem build_TrA (ρ : Operand → Value) (dst : Option Tmp) (x0 x1 x2 x3 : Operand) (t : TypeId) (pos : String) (after : Array Edge) (guard : Option (Nat × Bool)) (w : World) :
    (execOp ρ { dst, op := Op.build 28 #[(0, x0), (9, x1), (6, x2), (10, x3)], type := t, pos, after, guard }).run Try.prog w = bTrA (elseB Try.prog ρ { dst, op := Op.build 28 #[(0, x0), (9, x1), (6, x2), (10, x3)], type := t, pos, after, guard } w) w (ρ x0) (ρ x1) (ρ x2) (ρ x3) := by
  have key : ∀ u0 u1 u2 u3, ρ x0 = u0 → ρ x1 = u1 → ρ x2 = u2 → ρ x3 = u3 → (execOp ρ { dst, op := Op.build 28 #[(0, x0), (9, x1), (6, x2), (10, x3)], type := t, pos, after, guard }).run Try.prog w = bTrA (elseB Try.prog ρ { dst, op := Op.build 28 #[(0, x0), (9, x1), (6, x2), (10, x3)], type := t, pos, after, guard } w) w u0 u1 u2 u3 := by
    intro u0 u1 u2 u3 h0 h1 h2 h3
    unfold bTrA
    split
    · split
      · rename_i e0
        have g0 := arr_lit e0
        subst g0
        simp [execOp, go_sem, h0, h1, h2, h3]
      · rfl
    · rfl
  exact key _ _ _ _ rfl rfl rfl rfl
def bTrB (e : Result Next) (w : World) (v0 v1 v2 : Value) : Result Next :=
  match v0, v1, v2 with
  | .agg a0, .agg a1, .int .u16 s2 => match a0.toList, a1.toList with
    | [c0_0, c0_1], [c1_0, c1_1] => .ok (.value (.agg #[c0_0, c0_1, .int .u64 0, .int .u64 0, .int .u64 0, .int .u64 0, .int .u64 0, .int .u64 0, c1_0, c1_1, .int .u64 0, .int .u32 0, .int .u32 0, .int .u16 0, .int .u16 s2, .int .u64 0])) w
    | _, _ => e
  | _, _, _ => e
theorem bTrB_is (e : Result Next) (w : World) (c0_0 c0_1 c1_0 c1_1 : Value) (s2 : Int) : bTrB e w (.agg #[c0_0, c0_1]) (.agg #[c1_0, c1_1]) (.int .u16 s2) = .ok (.value (.agg #[c0_0, c0_1, .int .u64 0, .int .u64 0, .int .u64 0, .int .u64 0, .int .u64 0, .int .u64 0, c1_0, c1_1, .int .u64 0, .int .u32 0, .int .u32 0, .int .u16 0, .int .u16 s2, .int .u64 0])) w := rfl
theorem build_TrB (ρ : Operand → Value) (dst : Option Tmp) (x0 x1 x2 : Operand) (t : TypeId) (pos : String) (after : Array Edge) (guard : Option (Nat × Bool)) (w : World) :
    (execOp ρ { dst, op := Op.build 28 #[(0, x0), (4, x1), (9, x2)], type := t, pos, after, guard }).run Try.prog w = bTrB (elseB Try.prog ρ { dst, op := Op.build 28 #[(0, x0), (4, x1), (9, x2)], type := t, pos, after, guard } w) w (ρ x0) (ρ x1) (ρ x2) := by
  have key : ∀ u0 u1 u2, ρ x0 = u0 → ρ x1 = u1 → ρ x2 = u2 → (execOp ρ { dst, op := Op.build 28 #[(0, x0), (4, x1), (9, x2)], type := t, pos, after, guard }).run Try.prog w = bTrB (elseB Try.prog ρ { dst, op := Op.build 28 #[(0, x0), (4, x1), (9, x2)], type := t, pos, after, guard } w) w u0 u1 u2 := by
    intro u0 u1 u2 h0 h1 h2
    unfold bTrB
    split
    · split
      · rename_i e0 e1
        have g0 := arr_lit e0
        subst g0
        have g1 := arr_lit e1
        subst g1
        simp [execOp, go_sem, h0, h1, h2]
      · rfl
    · rfl
  exact key _ _ _ rfl rfl rfl
def bWa (e : Result Next) (w : World) (v0 v1 v2 : Value) : Result Next :=
  match v0, v1, v2 with
  | .agg a0, .bool s1, .int .u8 s2 => match a0.toList with
    | [c0_0, c0_1, c0_2, c0_3, c0_4, c0_5, c0_6, c0_7, c0_8, c0_9, c0_10, c0_11, c0_12, c0_13, c0_14, c0_15] => .ok (.value (.agg #[c0_0, c0_1, c0_2, c0_3, c0_4, c0_5, c0_6, c0_7, c0_8, c0_9, c0_10, c0_11, c0_12, c0_13, c0_14, c0_15, .bool s1, .int .u8 s2])) w
    | _ => e
  | _, _, _ => e
theorem bWa_is (e : Result Next) (w : World) (c0_0 c0_1 c0_2 c0_3 c0_4 c0_5 c0_6 c0_7 c0_8 c0_9 c0_10 c0_11 c0_12 c0_13 c0_14 c0_15 : Value) (s1 : Bool) (s2 : Int) : bWa e w (.agg #[c0_0, c0_1, c0_2, c0_3, c0_4, c0_5, c0_6, c0_7, c0_8, c0_9, c0_10, c0_11, c0_12, c0_13, c0_14, c0_15]) (.bool s1) (.int .u8 s2) = .ok (.value (.agg #[c0_0, c0_1, c0_2, c0_3, c0_4, c0_5, c0_6, c0_7, c0_8, c0_9, c0_10, c0_11, c0_12, c0_13, c0_14, c0_15, .bool s1, .int .u8 s2])) w := rfl
theorem build_Wa (ρ : Operand → Value) (dst : Option Tmp) (x0 x1 x2 : Operand) (t : TypeId) (pos : String) (after : Array Edge) (guard : Option (Nat × Bool)) (w : World) :
    (execOp ρ { dst, op := Op.build 66 #[(0, x0), (1, x1), (2, x2)], type := t, pos, after, guard }).run Try.prog w = bWa (elseB Try.prog ρ { dst, op := Op.build 66 #[(0, x0), (1, x1), (2, x2)], type := t, pos, after, guard } w) w (ρ x0) (ρ x1) (ρ x2) := by
  have key : ∀ u0 u1 u2, ρ x0 = u0 → ρ x1 = u1 → ρ x2 = u2 → (execOp ρ { dst, op := Op.build 66 #[(0, x0), (1, x1), (2, x2)], type := t, pos, after, guard }).run Try.prog w = bWa (elseB Try.prog ρ { dst, op := Op.build 66 #[(0, x0), (1, x1), (2, x2)], type := t, pos, after, guard } w) w u0 u1 u2 := by
    intro u0 u1 u2 h0 h1 h2
    unfold bWa
    split
    · split
      · rename_i e0
        have g0 := arr_lit e0
        subst g0
        simp [execOp, go_sem, h0, h1, h2]
      · rfl
    · rfl
  exact key _ _ _ rfl rfl rfl
theorem build_Pz (ρ : Operand → Value) (dst : Option Tmp) (t : TypeId) (pos : String) (after : Array Edge) (guard : Option (Nat × Bool)) (w : World) :
    (execOp ρ { dst, op := Op.build 32 #[], type := t, pos, after, guard }).run Try.prog w = .ok (.value (.agg #[.int .u64 0, .int .u64 0, .int .u64 0, .int .u64 0, .int .u64 0, .int .u64 0, .int .u64 0, .int .u64 0, .int .u64 0, .int .u64 0, .int .u64 0, .int .u32 0, .int .u16 0, .int .u16 0, .int .u64 0, .int .u64 0, .int .u64 0, .int .u64 0, .int .u64 0, .int .u64 0, .int .u64 0, .int .u64 0, .int .u64 0, .int .u64 0, .int .u64 0, .int .u64 0, .int .u32 0, .int .u16 0, .int .u16 0, .int .u64 0, .bool false, .bool false])) w := by
  simp [execOp, go_sem]
theorem chk14 (w : World) : Calls Try.prog 36 #[.agg #[.int .u64 0, .int .u64 2, .int .u64 0, .int .u64 0, .int .u64 0, .int .u64 0, .int .u64 0, .int .u64 0, .int .u64 0, .int .u64 1, .int .u64 0, .int .u32 0, .int .u32 0, .int .u16 0, .int .u16 8, .int .u64 0], .int .u64 14, .agg #[.int .u64 0, .int .u64 1, .int .u64 0, .int .u64 0, .int .u64 0, .int .u64 0, .int .u64 0, .int .u64 0, .int .u64 0, .int .u64 0, .int .u64 0, .int .u32 5, .int .u32 0, .int .u16 0, .int .u16 2, .int .u64 10, .bool true, .int .u8 1], .agg #[.int .u64 0, .int .u64 0, .int .u64 0, .int .u64 0, .int .u64 0, .int .u64 0, .int .u64 0, .int .u64 0, .int .u64 0, .int .u64 0, .int .u64 0, .int .u32 0, .int .u16 0, .int .u16 0, .int .u64 0, .int .u64 0, .int .u64 0, .int .u64 0, .int .u64 0, .int .u64 0, .int .u64 0, .int .u64 0, .int .u64 0, .int .u64 0, .int .u64 0, .int .u64 0, .int .u32 0, .int .u16 0, .int .u16 0, .int .u64 0, .bool false, .bool false]] w fun r w' => r = .returned (.tuple #[.int .u32 0, .agg #[.int .u64 0, .int .u64 0]]) ∧ Below w.heap.size w w' := by
  have h := check_of 0 2 0 0 0 0 0 0 0 1 0 0 0 0 8 0 14 0 1 0 0 0 0 0 0 0 0 0 5 0 0 2 10 1 0 0 0 0 0 0 0 0 0 0 0 0 0 0 0 0 0 0 0 0 0 0 0 0 0 0 0 0 0 0 true false false true false 0 0 0 0 (fun w => names_any 0 2 0 0 0 0 0 0 0 1 0 0 0 0 8 0 false false false false (by decide) (by decide) (by decide) (by decide) w) (fun w => fits_any 0 2 0 0 0 0 0 0 0 1 0 0 0 0 8 0 0 1 0 0 0 0 0 0 0 0 0 5 0 0 2 10 1 true false true true true true true true true true true false false false true true (by rfl) (by decide) (by decide) (by decide) (by decide) (by decide) (by decide) (by decide) (by decide) (by rfl) (by decide) (by decide) (by rfl) (by decide) (by decide) w) (fun w => open_any 0 1 0 0 0 0 0 0 0 0 0 5 0 0 2 10 1 14 true (by decide) (by decide) false false false false false false (by decide) (by decide) (by decide) (by decide) (by decide) (by decide) w) (fun w => closed_any 0 2 0 0 0 0 0 0 0 1 0 0 0 0 8 0 0 0 0 0 0 0 0 0 0 0 0 0 0 0 0 0 0 0 0 0 0 0 0 0 0 0 0 0 0 0 false false true false false (by rfl) (by rfl) (by rfl) w) (by rfl) (by decide) w
  exact h
theorem chk15 (w : World) : Calls Try.prog 36 #[.agg #[.int .u64 0, .int .u64 2, .int .u64 0, .int .u64 0, .int .u64 0, .int .u64 0, .int .u64 0, .int .u64 0, .int .u64 0, .int .u64 1, .int .u64 0, .int .u32 0, .int .u32 0, .int .u16 0, .int .u16 8, .int .u64 0], .int .u64 15, .agg #[.int .u64 0, .int .u64 1, .int .u64 0, .int .u64 0, .int .u64 0, .int .u64 0, .int .u64 0, .int .u64 0, .int .u64 0, .int .u64 0, .int .u64 0, .int .u32 5, .int .u32 0, .int .u16 0, .int .u16 2, .int .u64 10, .bool true, .int .u8 1], .agg #[.int .u64 0, .int .u64 0, .int .u64 0, .int .u64 0, .int .u64 0, .int .u64 0, .int .u64 0, .int .u64 0, .int .u64 0, .int .u64 0, .int .u64 0, .int .u32 0, .int .u16 0, .int .u16 0, .int .u64 0, .int .u64 0, .int .u64 0, .int .u64 0, .int .u64 0, .int .u64 0, .int .u64 0, .int .u64 0, .int .u64 0, .int .u64 0, .int .u64 0, .int .u64 0, .int .u32 0, .int .u16 0, .int .u16 0, .int .u64 0, .bool false, .bool false]] w fun r w' => r = .returned (.tuple #[.int .u32 57, .agg #[.int .u64 0, .int .u64 0]]) ∧ Below w.heap.size w w' := by
  have h := check_of 0 2 0 0 0 0 0 0 0 1 0 0 0 0 8 0 15 0 1 0 0 0 0 0 0 0 0 0 5 0 0 2 10 1 0 0 0 0 0 0 0 0 0 0 0 0 0 0 0 0 0 0 0 0 0 0 0 0 0 0 0 0 0 0 true false false true false 0 0 57 0 (fun w => names_any 0 2 0 0 0 0 0 0 0 1 0 0 0 0 8 0 false false false false (by decide) (by decide) (by decide) (by decide) w) (fun w => fits_any 0 2 0 0 0 0 0 0 0 1 0 0 0 0 8 0 0 1 0 0 0 0 0 0 0 0 0 5 0 0 2 10 1 true false true true true true true true true true true false false false true true (by rfl) (by decide) (by decide) (by decide) (by decide) (by decide) (by decide) (by decide) (by decide) (by rfl) (by decide) (by decide) (by rfl) (by decide) (by decide) w) (fun w => open_any 0 1 0 0 0 0 0 0 0 0 0 5 0 0 2 10 1 15 true (by decide) (by decide) false false true false false false (by decide) (by decide) (by decide) (by decide) (by decide) (by decide) w) (fun w => closed_any 0 2 0 0 0 0 0 0 0 1 0 0 0 0 8 0 0 0 0 0 0 0 0 0 0 0 0 0 0 0 0 0 0 0 0 0 0 0 0 0 0 0 0 0 0 0 false false true false false (by rfl) (by rfl) (by rfl) w) (by rfl) (by decide) w
  exact h
theorem dead20 (w : World) : Calls Try.prog 38 #[.agg #[.int .u64 0, .int .u64 1, .int .u64 0, .int .u64 0, .int .u64 0, .int .u64 0, .int .u64 0, .int .u64 0, .int .u64 0, .int .u64 0, .int .u64 0, .int .u32 5, .int .u32 0, .int .u16 0, .int .u16 2, .int .u64 10]] w fun r w' => r = .returned (.tuple #[.int .u64 15, .bool true]) ∧ Below w.heap.size w w' := deadline_any 0 1 0 0 0 0 0 0 0 0 0 5 0 0 2 10 (by decide) (by decide) false false (by decide) (by decide) w
attribute [local go_sem] loadV_ptr storeV_ptr bTrA_is bTrB_is bWa_is
attribute [local go_sem ↓] load_Transfer store_Transfer load_Waits store_Waits load_Parties store_Parties build_TrA build_TrB build_Wa build_Pz
set_option maxRecDepth 8000 in
set_option maxHeartbeats 4000000 in
theorem fixed20_any (w : World) : Calls Try.prog 37 #[] w fun r w' => r = .returned (.bool true) ∧ Below w.heap.size w w' := by
  have H1 := Lib.hid chk14
  have H2 := Lib.hid chk15
  have H3 := Lib.hid dead20
  have hb0 := Below.refl w.heap.size w
  go_enter Try.func37, Try.ntmps37
  replace hb0 := Lib.hid hb0
  go_wp2_with fail
  refine (H1.out _).mono ?_
  rintro e w_1 ⟨rfl, hb_1⟩
  have z_1 := hb_1.size
  try simp at z_1
  have t_ := hb0.out
  have hB_1 := bel_eld (w := w) (X := _) (by first | ((repeat (first | with_reducible exact Below.refl _ _ | with_reducible assumption | (with_reducible refine bel_set ?_ (by first | exact Nat.le_refl _ | (simp; done) | (simp; omega) | omega) _) | with_reducible refine bel_grow ?_ _ | with_reducible refine Below.drew ?_ | with_reducible refine below_drewN ?_ _ | with_reducible refine bel_alloc ?_ _ | with_reducible refine bel_trans ?_ (by assumption))); done) | (repeat (first | exact Below.refl _ _ | assumption | refine below_drewN ?_ _ | refine bel_grow ?_ _ | refine Below.drew ?_ | refine bel_alloc ?_ _ | refine bel_set ?_ (by first | exact Nat.le_refl _ | (simp; done) | (simp; omega) | omega) _ | refine bel_trans ?_ (by assumption)))) hb_1
  clear t_
  have g_y : Blk w_1 (w.heap.size) 66 #[.int .u64 0, .int .u64 1, .int .u64 0, .int .u64 0, .int .u64 0, .int .u64 0, .int .u64 0, .int .u64 0, .int .u64 0, .int .u64 0, .int .u64 0, .int .u32 5, .int .u32 0, .int .u16 0, .int .u16 2, .int .u64 10, .bool true, .int .u8 1] := by
    refine Blk.kept ?_ hb_1
    (repeat (first | with_reducible assumption | (with_reducible refine Blk.new' ?_; first | with_reducible rfl | (simp; done)) | with_reducible refine Blk.alloc ?_ _ | with_reducible refine Blk.grow ?_ _ | with_reducible refine Blk.drew ?_ | with_reducible refine Blk.drewN ?_ _ | (with_reducible refine Blk.far ?_ (by first | (dsimp only; omega) | (simp; omega)) _) | (with_reducible apply Blk.two) | (with_reducible refine Blk.set' ?_ _ _ ?_) | (with_reducible rfl) | rfl))
  have g_x : Blk w_1 (w.heap.size + 1) 28 #[.int .u64 0, .int .u64 2, .int .u64 0, .int .u64 0, .int .u64 0, .int .u64 0, .int .u64 0, .int .u64 0, .int .u64 0, .int .u64 1, .int .u64 0, .int .u32 0, .int .u32 0, .int .u16 0, .int .u16 8, .int .u64 0] := by
    refine Blk.kept ?_ hb_1
    (repeat (first | with_reducible assumption | (with_reducible refine Blk.new' ?_; first | with_reducible rfl | (simp; done)) | with_reducible refine Blk.alloc ?_ _ | with_reducible refine Blk.grow ?_ _ | with_reducible refine Blk.drew ?_ | with_reducible refine Blk.drewN ?_ _ | (with_reducible refine Blk.far ?_ (by first | (dsimp only; omega) | (simp; omega)) _) | (with_reducible apply Blk.two) | (with_reducible refine Blk.set' ?_ _ _ ?_) | (with_reducible rfl) | rfl))
  clear hb0 hb_1
  have f_y := g_y
  clear g_y
  have f_x := g_x
  clear g_x
  have r_y := rowAt_blk f_y
  have y_l := f_y.lt
  replace f_y := Lib.hid f_y
  have r_x := rowAt_blk f_x
  have x_l := f_x.lt
  replace f_x := Lib.hid f_x
  replace hB_1 := Lib.hid hB_1
  go_wp2_with fail
  refine (H2.out _).mono ?_
  rintro e w_2 ⟨rfl, hb_2⟩
  have z_2 := hb_2.size
  try simp at z_2
  have t_ := hB_1.out
  have hB_2 := bel_eld (w := w) (X := _) (by first | ((repeat (first | with_reducible exact Below.refl _ _ | with_reducible assumption | (with_reducible refine bel_set ?_ (by first | exact Nat.le_refl _ | (simp; done) | (simp; omega) | omega) _) | with_reducible refine bel_grow ?_ _ | with_reducible refine Below.drew ?_ | with_reducible refine below_drewN ?_ _ | with_reducible refine bel_alloc ?_ _ | with_reducible refine bel_trans ?_ (by assumption))); done) | (repeat (first | exact Below.refl _ _ | assumption | refine below_drewN ?_ _ | refine bel_grow ?_ _ | refine Below.drew ?_ | refine bel_alloc ?_ _ | refine bel_set ?_ (by first | exact Nat.le_refl _ | (simp; done) | (simp; omega) | omega) _ | refine bel_trans ?_ (by assumption)))) hb_2
  clear t_
  have t_y := f_y.out
  have t_x := f_x.out
  have g_y : Blk w_2 (w.heap.size) 66 #[.int .u64 0, .int .u64 1, .int .u64 0, .int .u64 0, .int .u64 0, .int .u64 0, .int .u64 0, .int .u64 0, .int .u64 0, .int .u64 0, .int .u64 0, .int .u32 5, .int .u32 0, .int .u16 0, .int .u16 2, .int .u64 10, .bool true, .int .u8 1] := by
    refine Blk.kept ?_ hb_2
    (repeat (first | with_reducible assumption | (with_reducible refine Blk.new' ?_; first | with_reducible rfl | (simp; done)) | with_reducible refine Blk.alloc ?_ _ | with_reducible refine Blk.grow ?_ _ | with_reducible refine Blk.drew ?_ | with_reducible refine Blk.drewN ?_ _ | (with_reducible refine Blk.far ?_ (by first | (dsimp only; omega) | (simp; omega)) _) | (with_reducible apply Blk.two) | (with_reducible refine Blk.set' ?_ _ _ ?_) | (with_reducible rfl) | rfl))
  have g_x : Blk w_2 (w.heap.size + 1) 28 #[.int .u64 0, .int .u64 2, .int .u64 0, .int .u64 0, .int .u64 0, .int .u64 0, .int .u64 0, .int .u64 0, .int .u64 0, .int .u64 1, .int .u64 0, .int .u32 0, .int .u32 0, .int .u16 0, .int .u16 8, .int .u64 0] := by
    refine Blk.kept ?_ hb_2
    (repeat (first | with_reducible assumption | (with_reducible refine Blk.new' ?_; first | with_reducible rfl | (simp; done)) | with_reducible refine Blk.alloc ?_ _ | with_reducible refine Blk.grow ?_ _ | with_reducible refine Blk.drew ?_ | with_reducible refine Blk.drewN ?_ _ | (with_reducible refine Blk.far ?_ (by first | (dsimp only; omega) | (simp; omega)) _) | (with_reducible apply Blk.two) | (with_reducible refine Blk.set' ?_ _ _ ?_) | (with_reducible rfl) | rfl))
  clear f_y y_l r_y f_x x_l r_x t_y t_x hB_1 hb_2
  have f_y := g_y
  clear g_y
  have f_x := g_x
  clear g_x
  have r_y := rowAt_blk f_y
  have y_l := f_y.lt
  replace f_y := Lib.hid f_y
  have r_x := rowAt_blk f_x
  have x_l := f_x.lt
  replace f_x := Lib.hid f_x
  replace hB_2 := Lib.hid hB_2
  go_wp2_with fail
  refine (H3.out _).mono ?_
  rintro e w_3 ⟨rfl, hb_3⟩
  have z_3 := hb_3.size
  try simp at z_3
  have t_ := hB_2.out
  have hB_3 := bel_eld (w := w) (X := _) (by first | ((repeat (first | with_reducible exact Below.refl _ _ | with_reducible assumption | (with_reducible refine bel_set ?_ (by first | exact Nat.le_refl _ | (simp; done) | (simp; omega) | omega) _) | with_reducible refine bel_grow ?_ _ | with_reducible refine Below.drew ?_ | with_reducible refine below_drewN ?_ _ | with_reducible refine bel_alloc ?_ _ | with_reducible refine bel_trans ?_ (by assumption))); done) | (repeat (first | exact Below.refl _ _ | assumption | refine below_drewN ?_ _ | refine bel_grow ?_ _ | refine Below.drew ?_ | refine bel_alloc ?_ _ | refine bel_set ?_ (by first | exact Nat.le_refl _ | (simp; done) | (simp; omega) | omega) _ | refine bel_trans ?_ (by assumption)))) hb_3
  clear t_
  have t_y := f_y.out
  have t_x := f_x.out
  have g_y : Blk w_3 (w.heap.size) 66 #[.int .u64 0, .int .u64 1, .int .u64 0, .int .u64 0, .int .u64 0, .int .u64 0, .int .u64 0, .int .u64 0, .int .u64 0, .int .u64 0, .int .u64 0, .int .u32 5, .int .u32 0, .int .u16 0, .int .u16 2, .int .u64 10, .bool true, .int .u8 1] := by
    refine Blk.kept ?_ hb_3
    (repeat (first | with_reducible assumption | (with_reducible refine Blk.new' ?_; first | with_reducible rfl | (simp; done)) | with_reducible refine Blk.alloc ?_ _ | with_reducible refine Blk.grow ?_ _ | with_reducible refine Blk.drew ?_ | with_reducible refine Blk.drewN ?_ _ | (with_reducible refine Blk.far ?_ (by first | (dsimp only; omega) | (simp; omega)) _) | (with_reducible apply Blk.two) | (with_reducible refine Blk.set' ?_ _ _ ?_) | (with_reducible rfl) | rfl))
  have g_x : Blk w_3 (w.heap.size + 1) 28 #[.int .u64 0, .int .u64 2, .int .u64 0, .int .u64 0, .int .u64 0, .int .u64 0, .int .u64 0, .int .u64 0, .int .u64 0, .int .u64 1, .int .u64 0, .int .u32 0, .int .u32 0, .int .u16 0, .int .u16 8, .int .u64 0] := by
    refine Blk.kept ?_ hb_3
    (repeat (first | with_reducible assumption | (with_reducible refine Blk.new' ?_; first | with_reducible rfl | (simp; done)) | with_reducible refine Blk.alloc ?_ _ | with_reducible refine Blk.grow ?_ _ | with_reducible refine Blk.drew ?_ | with_reducible refine Blk.drewN ?_ _ | (with_reducible refine Blk.far ?_ (by first | (dsimp only; omega) | (simp; omega)) _) | (with_reducible apply Blk.two) | (with_reducible refine Blk.set' ?_ _ _ ?_) | (with_reducible rfl) | rfl))
  clear f_y y_l r_y f_x x_l r_x t_y t_x hB_2 hb_3
  have f_y := g_y
  clear g_y
  have f_x := g_x
  clear g_x
  have r_y := rowAt_blk f_y
  have y_l := f_y.lt
  replace f_y := Lib.hid f_y
  have r_x := rowAt_blk f_x
  have x_l := f_x.lt
  replace f_x := Lib.hid f_x
  replace hB_3 := Lib.hid hB_3
  go_wp2_with fail
  go_ret
  exact ⟨rfl, by have t := hB_3.out; (repeat (first | with_reducible exact Below.refl _ _ | with_reducible assumption | (with_reducible refine bel_set ?_ (by first | exact Nat.le_refl _ | (simp; done) | (simp; omega) | omega) _) | with_reducible refine bel_grow ?_ _ | with_reducible refine Below.drew ?_ | with_reducible refine below_drewN ?_ _ | with_reducible refine bel_alloc ?_ _ | with_reducible refine bel_trans ?_ (by assumption)))⟩
end Go.Proofs.Ytpbnakoimlmhnaa
