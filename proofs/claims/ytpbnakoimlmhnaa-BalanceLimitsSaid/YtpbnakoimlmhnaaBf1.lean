/-
  The example of layer 18.
-/
import Derived.Test.YtpbnakoimlmhnaaBj1
import Derived.Test.YtpbnakoimlmhnaaBj4
namespace Go.Proofs.Ytpbnakoimlmhnaa
set_option linter.unusedVariables false
set_option linter.unusedSimpArgs false
open Go.RowKit

attribute [local go_sem] loadV_ptr storeV_ptr one_func drew_hs ext_deb ext_cre ext_cols ext_acc
attribute [local go_sem ↓] load_Cols store_Cols load_Transfer store_Transfer load_Parties store_Parties load_Acct store_Acct
theorem arr_lit {α : Type} {a : Array α} {l : List α} (h : a.toList = l) : a = l.toArray := by cases a; simp_all
def bAcF (e : Result Next) (w : World) (v0 v1 : Value) : Result Next :=
  match v0, v1 with
  | .agg a0, .agg a1 => match a0.toList, a1.toList with
    | [c0_0, c0_1], [c1_0, c1_1] => .ok (.value (.agg #[.int .u64 0, .int .u64 0, c1_0, c1_1, .int .u64 0, .int .u64 0, .int .u64 0, .int .u64 0, c0_0, c0_1, .int .u64 0, .int .u32 0, .int .u16 0, .int .u16 0, .int .u64 0])) w
    | _, _ => e
  | _, _ => e
theorem bAcF_is (e : Result Next) (w : World) (c0_0 c0_1 c1_0 c1_1 : Value)  : bAcF e w (.agg #[c0_0, c0_1]) (.agg #[c1_0, c1_1]) = .ok (.value (.agg #[.int .u64 0, .int .u64 0, c1_0, c1_1, .int .u64 0, .int .u64 0, .int .u64 0, .int .u64 0, c0_0, c0_1, .int .u64 0, .int .u32 0, .int .u16 0, .int .u16 0, .int .u64 0])) w := rfl
theorem build_AcF (ρ : Operand → Value) (dst : Option Tmp) (x0 x1 : Operand) (t : TypeId) (pos : String) (after : Array Edge) (guard : Option (Nat × Bool)) (w : World) :
    (execOp ρ { dst, op := Op.build 30 #[(4, x0), (1, x1)], type := t, pos, after, guard }).run Try.prog w = bAcF (elseB Try.prog ρ { dst, op := Op.build 30 #[(4, x0), (1, x1)], type := t, pos, after, guard } w) w (ρ x0) (ρ x1) := by
  have key : ∀ u0 u1, ρ x0 = u0 → ρ x1 = u1 → (execOp ρ { dst, op := Op.build 30 #[(4, x0), (1, x1)], type := t, pos, after, guard }).run Try.prog w = bAcF (elseB Try.prog ρ { dst, op := Op.build 30 #[(4, x0), (1, x1)], type := t, pos, after, guard } w) w u0 u1 := by
    intro u0 u1 h0 h1
    unfold bAcF
    split
    · split
      · rename_i e0 e1
        have g0 := arr_lit e0
        subst g0
        have g1 := arr_lit e1
        subst g1
        simp [execOp, go_sem, h0, h1]
      · rfl
    · rfl
  exact key _ _ rfl rfl
def bPzF (e : Result Next) (w : World) (v0 : Value) : Result Next :=
  match v0 with
  | .agg a0 => match a0.toList with
    | [c0_0, c0_1, c0_2, c0_3, c0_4, c0_5, c0_6, c0_7, c0_8, c0_9, c0_10, c0_11, c0_12, c0_13, c0_14] => .ok (.value (.agg #[c0_0, c0_1, c0_2, c0_3, c0_4, c0_5, c0_6, c0_7, c0_8, c0_9, c0_10, c0_11, c0_12, c0_13, c0_14, .int .u64 0, .int .u64 0, .int .u64 0, .int .u64 0, .int .u64 0, .int .u64 0, .int .u64 0, .int .u64 0, .int .u64 0, .int .u64 0, .int .u64 0, .int .u32 0, .int .u16 0, .int .u16 0, .int .u64 0, .bool false, .bool false])) w
    | _ => e
  | _ => e
theorem bPzF_is (e : Result Next) (w : World) (c0_0 c0_1 c0_2 c0_3 c0_4 c0_5 c0_6 c0_7 c0_8 c0_9 c0_10 c0_11 c0_12 c0_13 c0_14 : Value)  : bPzF e w (.agg #[c0_0, c0_1, c0_2, c0_3, c0_4, c0_5, c0_6, c0_7, c0_8, c0_9, c0_10, c0_11, c0_12, c0_13, c0_14]) = .ok (.value (.agg #[c0_0, c0_1, c0_2, c0_3, c0_4, c0_5, c0_6, c0_7, c0_8, c0_9, c0_10, c0_11, c0_12, c0_13, c0_14, .int .u64 0, .int .u64 0, .int .u64 0, .int .u64 0, .int .u64 0, .int .u64 0, .int .u64 0, .int .u64 0, .int .u64 0, .int .u64 0, .int .u64 0, .int .u32 0, .int .u16 0, .int .u16 0, .int .u64 0, .bool false, .bool false])) w := rfl
theorem build_PzF (ρ : Operand → Value) (dst : Option Tmp) (x0 : Operand) (t : TypeId) (pos : String) (after : Array Edge) (guard : Option (Nat × Bool)) (w : World) :
    (execOp ρ { dst, op := Op.build 32 #[(0, x0)], type := t, pos, after, guard }).run Try.prog w = bPzF (elseB Try.prog ρ { dst, op := Op.build 32 #[(0, x0)], type := t, pos, after, guard } w) w (ρ x0) := by
  have key : ∀ u0, ρ x0 = u0 → (execOp ρ { dst, op := Op.build 32 #[(0, x0)], type := t, pos, after, guard }).run Try.prog w = bPzF (elseB Try.prog ρ { dst, op := Op.build 32 #[(0, x0)], type := t, pos, after, guard } w) w u0 := by
    intro u0 h0
    unfold bPzF
    split
    · split
      · rename_i e0
        have g0 := arr_lit e0
        subst g0
        simp [execOp, go_sem, h0]
      · rfl
    · rfl
  exact key _ rfl
def bTrM (e : Result Next) (w : World) (v0 v1 : Value) : Result Next :=
  match v0, v1 with
  | .agg a0, .int .u16 s1 => match a0.toList with
    | [c0_0, c0_1] => .ok (.value (.agg #[.int .u64 0, .int .u64 0, .int .u64 0, .int .u64 0, .int .u64 0, .int .u64 0, c0_0, c0_1, .int .u64 0, .int .u64 0, .int .u64 0, .int .u32 0, .int .u32 0, .int .u16 0, .int .u16 s1, .int .u64 0])) w
    | _ => e
  | _, _ => e
theorem bTrM_is (e : Result Next) (w : World) (c0_0 c0_1 : Value) (s1 : Int) : bTrM e w (.agg #[c0_0, c0_1]) (.int .u16 s1) = .ok (.value (.agg #[.int .u64 0, .int .u64 0, .int .u64 0, .int .u64 0, .int .u64 0, .int .u64 0, c0_0, c0_1, .int .u64 0, .int .u64 0, .int .u64 0, .int .u32 0, .int .u32 0, .int .u16 0, .int .u16 s1, .int .u64 0])) w := rfl
theorem build_TrM (ρ : Operand → Value) (dst : Option Tmp) (x0 x1 : Operand) (t : TypeId) (pos : String) (after : Array Edge) (guard : Option (Nat × Bool)) (w : World) :
    (execOp ρ { dst, op := Op.build 28 #[(3, x0), (9, x1)], type := t, pos, after, guard }).run Try.prog w = bTrM (elseB Try.prog ρ { dst, op := Op.build 28 #[(3, x0), (9, x1)], type := t, pos, after, guard } w) w (ρ x0) (ρ x1) := by
  have key : ∀ u0 u1, ρ x0 = u0 → ρ x1 = u1 → (execOp ρ { dst, op := Op.build 28 #[(3, x0), (9, x1)], type := t, pos, after, guard }).run Try.prog w = bTrM (elseB Try.prog ρ { dst, op := Op.build 28 #[(3, x0), (9, x1)], type := t, pos, after, guard } w) w u0 u1 := by
    intro u0 u1 h0 h1
    unfold bTrM
    split
    · split
      · rename_i e0
        have g0 := arr_lit e0
        subst g0
        simp [execOp, go_sem, h0, h1]
      · rfl
    · rfl
  exact key _ _ rfl rfl
theorem build_Tr0 (ρ : Operand → Value) (dst : Option Tmp) (t : TypeId) (pos : String) (after : Array Edge) (guard : Option (Nat × Bool)) (w : World) :
    (execOp ρ { dst, op := Op.build 28 #[], type := t, pos, after, guard }).run Try.prog w = .ok (.value (.agg #[.int .u64 0, .int .u64 0, .int .u64 0, .int .u64 0, .int .u64 0, .int .u64 0, .int .u64 0, .int .u64 0, .int .u64 0, .int .u64 0, .int .u64 0, .int .u32 0, .int .u32 0, .int .u16 0, .int .u16 0, .int .u64 0])) w := by
  simp [execOp, go_sem]
attribute [local go_sem] bAcF_is bPzF_is bTrM_is
attribute [local go_sem ↓] build_AcF build_PzF build_TrM build_Tr0
theorem mv18 (w : World) : Calls Try.prog 14 #[.agg #[.int .u64 0, .int .u64 0, .int .u64 0, .int .u64 0, .int .u64 0, .int .u64 0, .int .u64 0, .int .u64 0, .int .u64 0, .int .u64 0, .int .u64 0, .int .u32 0, .int .u32 0, .int .u16 0, .int .u16 0, .int .u64 0], .agg #[.int .u64 0, .int .u64 3], .agg #[.int .u64 0, .int .u64 0, .int .u64 0, .int .u64 4, .int .u64 0, .int .u64 0, .int .u64 0, .int .u64 0, .int .u64 0, .int .u64 10, .int .u64 0, .int .u32 0, .int .u16 0, .int .u16 0, .int .u64 0, .int .u64 0, .int .u64 0, .int .u64 0, .int .u64 0, .int .u64 0, .int .u64 0, .int .u64 0, .int .u64 0, .int .u64 0, .int .u64 0, .int .u64 0, .int .u32 0, .int .u16 0, .int .u16 0, .int .u64 0, .bool false, .bool false]] w fun r w' => r = .returned (.tuple #[.agg #[.int .u64 0, .int .u64 0, .int .u64 0, .int .u64 4, .int .u64 0, .int .u64 3, .int .u64 0, .int .u64 0, .int .u64 0, .int .u64 10, .int .u64 0, .int .u32 0, .int .u16 0, .int .u16 0, .int .u64 0, .int .u64 0, .int .u64 0, .int .u64 0, .int .u64 0, .int .u64 0, .int .u64 0, .int .u64 0, .int .u64 0, .int .u64 0, .int .u64 3, .int .u64 0, .int .u32 0, .int .u16 0, .int .u16 0, .int .u64 0, .bool false, .bool false], .bool true]) ∧ Below w.heap.size w w' :=
  move_any_false 0 0 0 0 0 0 0 0 0 0 0 0 0 0 0 0 0 3 0 0 0 4 0 0 0 0 0 10 0 0 0 0 0 0 0 0 0 0 0 0 0 0 0 0 0 0 0 0 false false (by unfold Wd; decide) (by unfold Wd; decide) (by unfold Wd; decide) (by unfold Wd; decide) (by unfold Wd; decide) (by unfold Wd; decide) (by unfold Wd; decide) (by unfold Wd; decide) (by unfold Wd; decide) (by unfold Wd; decide) (by unfold Wd; decide) (by unfold Wd; decide) (by unfold Wd; decide) (by unfold Wd; decide) (by unfold Wd; decide) (by unfold Wd; decide) (by unfold Wd; decide) (by unfold Wd; decide) (by decide) w
theorem as18 (w : World) : Calls Try.prog 20 #[.agg #[.int .u64 0, .int .u64 0, .int .u64 0, .int .u64 0, .int .u64 0, .int .u64 0, .int .u64 0, .int .u64 99, .int .u64 0, .int .u64 0, .int .u64 0, .int .u32 0, .int .u32 0, .int .u16 0, .int .u16 16, .int .u64 0], .agg #[.int .u64 0, .int .u64 0, .int .u64 0, .int .u64 4, .int .u64 0, .int .u64 0, .int .u64 0, .int .u64 0, .int .u64 0, .int .u64 10, .int .u64 0, .int .u32 0, .int .u16 0, .int .u16 0, .int .u64 0, .int .u64 0, .int .u64 0, .int .u64 0, .int .u64 0, .int .u64 0, .int .u64 0, .int .u64 0, .int .u64 0, .int .u64 0, .int .u64 0, .int .u64 0, .int .u32 0, .int .u16 0, .int .u16 0, .int .u64 0, .bool false, .bool false]] w fun r w' => r = .returned (.agg #[.int .u64 0, .int .u64 6]) ∧ Below w.heap.size w w' :=
  asked_any 0 0 0 0 0 0 0 99 0 0 0 0 0 0 16 0 0 0 0 4 0 0 0 0 0 10 0 0 0 0 0 0 0 0 0 0 0 0 0 0 0 0 0 0 0 0 false false (by unfold Wd; decide) (by unfold Wd; decide) (by unfold Wd; decide) (by unfold Wd; decide) (by unfold Wd; decide) (by unfold Wd; decide) (by unfold Wd; decide) (by unfold Wd; decide) (by unfold Wd; decide) (by unfold Wd; decide) (by unfold Wd; decide) (by unfold Wd; decide) (by unfold Wd; decide) (by unfold Wd; decide) (by unfold Wd; decide) (by unfold Wd; decide) (by unfold Wd; decide) (by unfold Wd; decide) w
set_option maxRecDepth 8000 in
set_option maxHeartbeats 8000000 in
theorem fixed18_any (w : World) : Calls Try.prog 15 #[] w fun r w' => r = .returned (.bool true) ∧ Below w.heap.size w w' := by
  have H1 := Lib.hid mv18
  have H2 := Lib.hid as18
  have hb0 := Below.refl w.heap.size w
  go_enter Try.func15, Try.ntmps15
  replace hb0 := Lib.hid hb0
  go_wp2_with fail
  refine (H1.out _).mono ?_
  rintro e w_1 ⟨rfl, hb_1⟩
  have z_1 := hb_1.size
  try simp at z_1
  have t_ := hb0.out
  have hB_1 := bel_eld (w := w) (X := _) (by first | ((repeat (first | with_reducible exact Below.refl _ _ | with_reducible assumption | (with_reducible refine bel_set ?_ (by first | exact Nat.le_refl _ | (simp; done) | (simp; omega) | omega) _) | with_reducible refine bel_grow ?_ _ | with_reducible refine Below.drew ?_ | with_reducible refine below_drewN ?_ _ | with_reducible refine bel_alloc ?_ _ | with_reducible refine bel_trans ?_ (by assumption))); done) | (repeat (first | exact Below.refl _ _ | assumption | refine below_drewN ?_ _ | refine bel_grow ?_ _ | refine Below.drew ?_ | refine bel_alloc ?_ _ | refine bel_set ?_ (by first | exact Nat.le_refl _ | (simp; done) | (simp; omega) | omega) _ | refine bel_trans ?_ (by assumption)))) hb_1
  clear t_
  have g_p : Blk w_1 (w.heap.size) 32 #[.int .u64 0, .int .u64 0, .int .u64 0, .int .u64 4, .int .u64 0, .int .u64 0, .int .u64 0, .int .u64 0, .int .u64 0, .int .u64 10, .int .u64 0, .int .u32 0, .int .u16 0, .int .u16 0, .int .u64 0, .int .u64 0, .int .u64 0, .int .u64 0, .int .u64 0, .int .u64 0, .int .u64 0, .int .u64 0, .int .u64 0, .int .u64 0, .int .u64 0, .int .u64 0, .int .u32 0, .int .u16 0, .int .u16 0, .int .u64 0, .bool false, .bool false] := by
    refine Blk.kept ?_ hb_1
    (repeat (first | with_reducible assumption | (with_reducible refine Blk.new' ?_; first | with_reducible rfl | (simp; done)) | with_reducible refine Blk.alloc ?_ _ | with_reducible refine Blk.grow ?_ _ | with_reducible refine Blk.drew ?_ | with_reducible refine Blk.drewN ?_ _ | (with_reducible refine Blk.far ?_ (by first | (dsimp only; omega) | (simp; omega)) _) | (with_reducible apply Blk.two) | (with_reducible refine Blk.set' ?_ _ _ ?_) | (with_reducible rfl) | rfl))
  clear hb0 hb_1
  have f_p := g_p
  clear g_p
  have r_p := rowAt_blk f_p
  have p_l := f_p.lt
  replace f_p := Lib.hid f_p
  replace hB_1 := Lib.hid hB_1
  go_wp2_with fail
  refine (H2.out _).mono ?_
  rintro e w_2 ⟨rfl, hb_2⟩
  have z_2 := hb_2.size
  try simp at z_2
  have t_ := hB_1.out
  have hB_2 := bel_eld (w := w) (X := _) (by first | ((repeat (first | with_reducible exact Below.refl _ _ | with_reducible assumption | (with_reducible refine bel_set ?_ (by first | exact Nat.le_refl _ | (simp; done) | (simp; omega) | omega) _) | with_reducible refine bel_grow ?_ _ | with_reducible refine Below.drew ?_ | with_reducible refine below_drewN ?_ _ | with_reducible refine bel_alloc ?_ _ | with_reducible refine bel_trans ?_ (by assumption))); done) | (repeat (first | exact Below.refl _ _ | assumption | refine below_drewN ?_ _ | refine bel_grow ?_ _ | refine Below.drew ?_ | refine bel_alloc ?_ _ | refine bel_set ?_ (by first | exact Nat.le_refl _ | (simp; done) | (simp; omega) | omega) _ | refine bel_trans ?_ (by assumption)))) hb_2
  clear t_
  have t_p := f_p.out
  have g_p : Blk w_2 (w.heap.size) 32 #[.int .u64 0, .int .u64 0, .int .u64 0, .int .u64 4, .int .u64 0, .int .u64 0, .int .u64 0, .int .u64 0, .int .u64 0, .int .u64 10, .int .u64 0, .int .u32 0, .int .u16 0, .int .u16 0, .int .u64 0, .int .u64 0, .int .u64 0, .int .u64 0, .int .u64 0, .int .u64 0, .int .u64 0, .int .u64 0, .int .u64 0, .int .u64 0, .int .u64 0, .int .u64 0, .int .u32 0, .int .u16 0, .int .u16 0, .int .u64 0, .bool false, .bool false] := by
    refine Blk.kept ?_ hb_2
    (repeat (first | with_reducible assumption | (with_reducible refine Blk.new' ?_; first | with_reducible rfl | (simp; done)) | with_reducible refine Blk.alloc ?_ _ | with_reducible refine Blk.grow ?_ _ | with_reducible refine Blk.drew ?_ | with_reducible refine Blk.drewN ?_ _ | (with_reducible refine Blk.far ?_ (by first | (dsimp only; omega) | (simp; omega)) _) | (with_reducible apply Blk.two) | (with_reducible refine Blk.set' ?_ _ _ ?_) | (with_reducible rfl) | rfl))
  have g_q : Blk w_2 (w_1.heap.size) 32 #[.int .u64 0, .int .u64 0, .int .u64 0, .int .u64 4, .int .u64 0, .int .u64 3, .int .u64 0, .int .u64 0, .int .u64 0, .int .u64 10, .int .u64 0, .int .u32 0, .int .u16 0, .int .u16 0, .int .u64 0, .int .u64 0, .int .u64 0, .int .u64 0, .int .u64 0, .int .u64 0, .int .u64 0, .int .u64 0, .int .u64 0, .int .u64 0, .int .u64 3, .int .u64 0, .int .u32 0, .int .u16 0, .int .u16 0, .int .u64 0, .bool false, .bool false] := by
    refine Blk.kept ?_ hb_2
    (repeat (first | with_reducible assumption | (with_reducible refine Blk.new' ?_; first | with_reducible rfl | (simp; done)) | with_reducible refine Blk.alloc ?_ _ | with_reducible refine Blk.grow ?_ _ | with_reducible refine Blk.drew ?_ | with_reducible refine Blk.drewN ?_ _ | (with_reducible refine Blk.far ?_ (by first | (dsimp only; omega) | (simp; omega)) _) | (with_reducible apply Blk.two) | (with_reducible refine Blk.set' ?_ _ _ ?_) | (with_reducible rfl) | rfl))
  clear f_p p_l r_p t_p hB_1 hb_2
  have f_p := g_p
  clear g_p
  have f_q := g_q
  clear g_q
  have r_p := rowAt_blk f_p
  have p_l := f_p.lt
  replace f_p := Lib.hid f_p
  have r_q := rowAt_blk f_q
  have q_l := f_q.lt
  have q_4 : w_2.cell? ⟨w_1.heap.size, 4, none⟩ = some (.int .u64 0) := (f_q).cell 4
  have q_f4 := (f_q).frozen 4
  have q_5 : w_2.cell? ⟨w_1.heap.size, 5, none⟩ = some (.int .u64 3) := (f_q).cell 5
  have q_f5 := (f_q).frozen 5
  replace f_q := Lib.hid f_q
  replace hB_2 := Lib.hid hB_2
  go_wp2_with fail
  go_ret
  exact ⟨rfl, by have t := hB_2.out; (repeat (first | with_reducible exact Below.refl _ _ | with_reducible assumption | (with_reducible refine bel_set ?_ (by first | exact Nat.le_refl _ | (simp; done) | (simp; omega) | omega) _) | with_reducible refine bel_grow ?_ _ | with_reducible refine Below.drew ?_ | with_reducible refine below_drewN ?_ _ | with_reducible refine bel_alloc ?_ _ | with_reducible refine bel_trans ?_ (by assumption)))⟩
end Go.Proofs.Ytpbnakoimlmhnaa
