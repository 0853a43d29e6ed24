/-
  posting.Check: what is built.
-/
import Derived.Test.YtpbnakoimlmhnaaBk
import Derived.Test.YtpbnakoimlmhnaaPn4
namespace Go.Proofs.Ytpbnakoimlmhnaa
set_option linter.unusedVariables false
set_option linter.unusedSimpArgs false
open Go.RowKit

def elseC (P : Program) (g o : Nat) (L : List Value) (w : World) : Result Unit := (storeCells ⟨g, o, none⟩ L).run P w
theorem run_storeC (P : Program) (g o : Nat) (L : List Value) (w : World) : (storeCells ⟨g, o, none⟩ L).run P w = (match rowAt w g with
    | some cs => if o + L.length ≤ cs.size ∧ L.all Value.oneCell' = true then .ok () (w.setRow g (cs.toList.take o ++ L ++ cs.toList.drop (o + L.length)).toArray) else elseC P g o L w
    | none => elseC P g o L w) := by
  split
  · rename_i cs hcs
    split
    · rename_i hle
      obtain ⟨h1, h3⟩ := hle
      obtain ⟨t, ht⟩ := rowAt_some hcs
      exact run_storeCells_at (P := P) g o t L 0 cs w ht (by simp; omega) (fun x hx => List.all_eq_true.1 h3 x hx)
    · rfl
  · rfl
theorem keepsr {w : World} {g n : Nat} {D cs : Array Value} (hn : g ≠ n) (h : rowAt w n = some cs) : rowAt (w.setRow g D) n = some cs := by
  refine (rowAt_of ?_).trans h
  unfold World.setRow
  simp [Array.getElem?_modify, hn]
theorem bel_setRow {B g : Nat} {w0 w : World} (hb : Below B w0 w) (hBg : B ≤ g) (cs : Array Value) : Below B w0 (w.setRow g cs) :=
  ⟨hb.os, hb.tape, hb.output, by unfold World.setRow; simpa using hb.size, fun k hk => by
    unfold World.setRow
    rw [← hb.block k hk]
    have : g ≠ k := by omega
    simp [Array.getElem?_modify, this]⟩
theorem Blk.setRow' {w : World} {g : Nat} {t : TypeId} {cs D : Array Value} (h : Blk w g t cs) : Blk (w.setRow g D) g t D := setRow_heap w g cs D t (0, 0) h
def chk19 (v1 v2 v3 v4 : Int) : Int := if v1 ≠ 0 then v1 else if v2 ≠ 0 then v2 else if v3 ≠ 0 then v3 else v4
def res19 (v n1 n2 : Int) : Value := .tuple #[.int .u32 v, .agg #[.int .u64 (if v = 0 then n1 else 0), .int .u64 (if v = 0 then n2 else 0)]]
theorem chk19_1 {v1 v2 v3 v4 n1 n2 : Int} (h : ¬ v1 = 0) : res19 (chk19 v1 v2 v3 v4) n1 n2 = .tuple #[.int .u32 v1, .agg #[.int .u64 0, .int .u64 0]] := by
  have e : chk19 v1 v2 v3 v4 = v1 := by unfold chk19; simp [h]
  rw [e]
  unfold res19
  rw [if_neg h, if_neg h]
theorem chk19_2 {v2 v3 v4 n1 n2 : Int} (h : ¬ v2 = 0) : res19 (chk19 0 v2 v3 v4) n1 n2 = .tuple #[.int .u32 v2, .agg #[.int .u64 0, .int .u64 0]] := by
  have e : chk19 0 v2 v3 v4 = v2 := by unfold chk19; simp [h]
  rw [e]
  unfold res19
  rw [if_neg h, if_neg h]
theorem chk19_3 {v3 v4 n1 n2 : Int} (h : ¬ v3 = 0) : res19 (chk19 0 0 v3 v4) n1 n2 = .tuple #[.int .u32 v3, .agg #[.int .u64 0, .int .u64 0]] := by
  have e : chk19 0 0 v3 v4 = v3 := by unfold chk19; simp [h]
  rw [e]
  unfold res19
  rw [if_neg h, if_neg h]
theorem chk19_4 {v4 n1 n2 : Int} (h : ¬ v4 = 0) : res19 (chk19 0 0 0 v4) n1 n2 = .tuple #[.int .u32 v4, .agg #[.int .u64 0, .int .u64 0]] := by
  have e : chk19 0 0 0 v4 = v4 := by unfold chk19; simp [h]
  rw [e]
  unfold res19
  rw [if_neg h, if_neg h]
theorem arr_lit {α : Type} {a : Array α} {l : List α} (h : a.toList = l) : a = l.toArray := by cases a; simp_all
def bAskd (e : Result Next) (w : World) (v0 v1 v2 v3 : Value) : Result Next :=
  match v0, v1, v2, v3 with
  | .agg a0, .int .u64 s1, .agg a2, .agg a3 => match a0.toList, a2.toList, a3.toList with
    | [c0_0, c0_1, c0_2, c0_3, c0_4, c0_5, c0_6, c0_7, c0_8, c0_9, c0_10, c0_11, c0_12, c0_13, c0_14, c0_15], [c2_0, c2_1, c2_2, c2_3, c2_4, c2_5, c2_6, c2_7, c2_8, c2_9, c2_10, c2_11, c2_12, c2_13, c2_14, c2_15, c2_16, c2_17, c2_18, c2_19, c2_20, c2_21, c2_22, c2_23, c2_24, c2_25, c2_26, c2_27, c2_28, c2_29, c2_30, c2_31], [c3_0, c3_1] => .ok (.value (.agg #[c0_0, c0_1, c0_2, c0_3, c0_4, c0_5, c0_6, c0_7, c0_8, c0_9, c0_10, c0_11, c0_12, c0_13, c0_14, c0_15, .int .u64 s1, c2_0, c2_1, c2_2, c2_3, c2_4, c2_5, c2_6, c2_7, c2_8, c2_9, c2_10, c2_11, c2_12, c2_13, c2_14, c2_15, c2_16, c2_17, c2_18, c2_19, c2_20, c2_21, c2_22, c2_23, c2_24, c2_25, c2_26, c2_27, c2_28, c2_29, c2_30, c2_31, c3_0, c3_1, .int .u32 0])) w
    | _, _, _ => e
  | _, _, _, _ => e
theorem bAskd_is (e : Result Next) (w : World) (c0_0 c0_1 c0_2 c0_3 c0_4 c0_5 c0_6 c0_7 c0_8 c0_9 c0_10 c0_11 c0_12 c0_13 c0_14 c0_15 c2_0 c2_1 c2_2 c2_3 c2_4 c2_5 c2_6 c2_7 c2_8 c2_9 c2_10 c2_11 c2_12 c2_13 c2_14 c2_15 c2_16 c2_17 c2_18 c2_19 c2_20 c2_21 c2_22 c2_23 c2_24 c2_25 c2_26 c2_27 c2_28 c2_29 c2_30 c2_31 c3_0 c3_1 : Value) (s1 : Int) : bAskd e w (.agg #[c0_0, c0_1, c0_2, c0_3, c0_4, c0_5, c0_6, c0_7, c0_8, c0_9, c0_10, c0_11, c0_12, c0_13, c0_14, c0_15]) (.int .u64 s1) (.agg #[c2_0, c2_1, c2_2, c2_3, c2_4, c2_5, c2_6, c2_7, c2_8, c2_9, c2_10, c2_11, c2_12, c2_13, c2_14, c2_15, c2_16, c2_17, c2_18, c2_19, c2_20, c2_21, c2_22, c2_23, c2_24, c2_25, c2_26, c2_27, c2_28, c2_29, c2_30, c2_31]) (.agg #[c3_0, c3_1]) = .ok (.value (.agg #[c0_0, c0_1, c0_2, c0_3, c0_4, c0_5, c0_6, c0_7, c0_8, c0_9, c0_10, c0_11, c0_12, c0_13, c0_14, c0_15, .int .u64 s1, c2_0, c2_1, c2_2, c2_3, c2_4, c2_5, c2_6, c2_7, c2_8, c2_9, c2_10, c2_11, c2_12, c2_13, c2_14, c2_15, c2_16, c2_17, c2_18, c2_19, c2_20, c2_21, c2_22, c2_23, c2_24, c2_25, c2_26, c2_27, c2_28, c2_29, c2_30, c2_31, c3_0, c3_1, .int .u32 0])) w := rfl
theorem build_Askd (ρ : Operand → Value) (dst : Option Tmp) (x0 x1 x2 x3 : Operand) (t : TypeId) (pos : String) (after : Array Edge) (guard : Option (Nat × Bool)) (w : World) :
    (execOp ρ { dst, op := Op.build 95 #[(0, x0), (1, x1), (2, x2), (3, x3)], type := t, pos, after, guard }).run Try.prog w = bAskd (elseB Try.prog ρ { dst, op := Op.build 95 #[(0, x0), (1, x1), (2, x2), (3, x3)], type := t, pos, after, guard } w) w (ρ x0) (ρ x1) (ρ x2) (ρ x3) := by
  have key : ∀ u0 u1 u2 u3, ρ x0 = u0 → ρ x1 = u1 → ρ x2 = u2 → ρ x3 = u3 → (execOp ρ { dst, op := Op.build 95 #[(0, x0), (1, x1), (2, x2), (3, x3)], type := t, pos, after, guard }).run Try.prog w = bAskd (elseB Try.prog ρ { dst, op := Op.build 95 #[(0, x0), (1, x1), (2, x2), (3, x3)], type := t, pos, after, guard } w) w u0 u1 u2 u3 := by
    intro u0 u1 u2 u3 h0 h1 h2 h3
    unfold bAskd
    split
    · split
      · rename_i e0 e2 e3
        have g0 := arr_lit e0
        subst g0
        have g2 := arr_lit e2
        subst g2
        have g3 := arr_lit e3
        subst g3
        simp [execOp, go_sem, h0, h1, h2, h3]
      · rfl
    · rfl
  exact key _ _ _ _ rfl rfl rfl rfl
def cat52 (a : Array Value) (s : Value) (b c : Array Value) : Array Value := a ++ #[s] ++ b ++ c ++ #[.int .u32 0]
def bG (e : Result Next) (w : World) (v0 v1 v2 v3 : Value) : Result Next :=
  match v0, v1, v2, v3 with
  | .agg a, .int .u64 s, .agg b, .agg c => if a.size = 16 ∧ b.size = 32 ∧ c.size = 2 then .ok (.value (.agg (cat52 a (.int .u64 s) b c))) w else e
  | _, _, _, _ => e
theorem bG_is (e : Result Next) (w : World) (a b c : Array Value) (s : Int) : bG e w (.agg a) (.int .u64 s) (.agg b) (.agg c) = if a.size = 16 ∧ b.size = 32 ∧ c.size = 2 then .ok (.value (.agg (cat52 a (.int .u64 s) b c))) w else e := rfl
theorem len16 {α : Type} : ∀ l : List α, l.length = 16 → ∃ c0 c1 c2 c3 c4 c5 c6 c7 c8 c9 c10 c11 c12 c13 c14 c15, l = [c0, c1, c2, c3, c4, c5, c6, c7, c8, c9, c10, c11, c12, c13, c14, c15]
  | [c0, c1, c2, c3, c4, c5, c6, c7, c8, c9, c10, c11, c12, c13, c14, c15], _ => ⟨c0, c1, c2, c3, c4, c5, c6, c7, c8, c9, c10, c11, c12, c13, c14, c15, rfl⟩
theorem len32 {α : Type} : ∀ l : List α, l.length = 32 → ∃ c0 c1 c2 c3 c4 c5 c6 c7 c8 c9 c10 c11 c12 c13 c14 c15 c16 c17 c18 c19 c20 c21 c22 c23 c24 c25 c26 c27 c28 c29 c30 c31, l = [c0, c1, c2, c3, c4, c5, c6, c7, c8, c9, c10, c11, c12, c13, c14, c15, c16, c17, c18, c19, c20, c21, c22, c23, c24, c25, c26, c27, c28, c29, c30, c31]
  | [c0, c1, c2, c3, c4, c5, c6, c7, c8, c9, c10, c11, c12, c13, c14, c15, c16, c17, c18, c19, c20, c21, c22, c23, c24, c25, c26, c27, c28, c29, c30, c31], _ => ⟨c0, c1, c2, c3, c4, c5, c6, c7, c8, c9, c10, c11, c12, c13, c14, c15, c16, c17, c18, c19, c20, c21, c22, c23, c24, c25, c26, c27, c28, c29, c30, c31, rfl⟩
theorem len2 {α : Type} : ∀ l : List α, l.length = 2 → ∃ c0 c1, l = [c0, c1]
  | [c0, c1], _ => ⟨c0, c1, rfl⟩
theorem build_AskdG (ρ : Operand → Value) (dst : Option Tmp) (x0 x1 x2 x3 : Operand) (t : TypeId) (pos : String) (after : Array Edge) (guard : Option (Nat × Bool)) (w : World) :
    (execOp ρ { dst, op := Op.build 95 #[(0, x0), (1, x1), (2, x2), (3, x3)], type := t, pos, after, guard }).run Try.prog w = bG (elseB Try.prog ρ { dst, op := Op.build 95 #[(0, x0), (1, x1), (2, x2), (3, x3)], type := t, pos, after, guard } w) w (ρ x0) (ρ x1) (ρ x2) (ρ x3) := by
  have key : ∀ u0 u1 u2 u3, ρ x0 = u0 → ρ x1 = u1 → ρ x2 = u2 → ρ x3 = u3 → (execOp ρ { dst, op := Op.build 95 #[(0, x0), (1, x1), (2, x2), (3, x3)], type := t, pos, after, guard }).run Try.prog w = bG (elseB Try.prog ρ { dst, op := Op.build 95 #[(0, x0), (1, x1), (2, x2), (3, x3)], type := t, pos, after, guard } w) w u0 u1 u2 u3 := by
    intro u0 u1 u2 u3 h0 h1 h2 h3
    unfold bG
    split
    · rename_i a s b c
      split
      · rename_i hz
        obtain ⟨za, zb, zc⟩ := hz
        obtain ⟨c0, c1, c2, c3, c4, c5, c6, c7, c8, c9, c10, c11, c12, c13, c14, c15, ea⟩ := len16 a.toList (by simpa using za)
        obtain ⟨d0, d1, d2, d3, d4, d5, d6, d7, d8, d9, d10, d11, d12, d13, d14, d15, d16, d17, d18, d19, d20, d21, d22, d23, d24, d25, d26, d27, d28, d29, d30, d31, eb⟩ := len32 b.toList (by simpa using zb)
        obtain ⟨f0, f1, ec⟩ := len2 c.toList (by simpa using zc)
        have ga := arr_lit ea
        subst ga
        have gb := arr_lit eb
        subst gb
        have gc := arr_lit ec
        subst gc
        rw [build_Askd, h0, h1, h2, h3, bAskd_is]
        unfold cat52
        simp
      · rfl
    · rfl
  exact key _ _ _ _ rfl rfl rfl rfl
end Go.Proofs.Ytpbnakoimlmhnaa
