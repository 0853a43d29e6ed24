/-
  slices.Backward over the writes that wait.
-/
import Derived.Test.YtnbfnlpepnbppaaDkG
import Derived.RangeFuncNested
import Derived.RangeFuncBound
import Derived.RangeFuncCalls
import Derived.RangeFuncLeaves
import Derived.Shelf.Abstract
import Derived.WalkKit
import Derived.OwnWalkIn
import Derived.TacticsInMore
import Derived.LoopNIn
import Derived.LoopIn
namespace Go.Proofs.Ytnbfnlpepnbppaa
set_option linter.unusedVariables false
set_option linter.unusedSimpArgs false
open Go.RowKit Go.Shelf
attribute [local irreducible] bytesL
attribute [local go_sem] Oper.semAt_some
attribute [local go_sem ↓] load_B store_B load_W store_W alloc_W

/-- from the last down to r -/
def dnL (m r : Nat) : List Nat := (List.range (m - r)).map (fun i => m - 1 - i)
theorem dnL_top (m : Nat) : dnL m m = [] := by simp [dnL]
theorem dnL_next {m r : Nat} (h : r + 1 ≤ m) : dnL m r = dnL m (r + 1) ++ [r] := by
  unfold dnL
  rw [show m - r = (m - (r + 1)) + 1 by omega, List.range_succ, List.map_append]
  congr 1
  simp
  omega
theorem dnL_pre {m r : Nat} (h : r ≤ m) : dnL m r <+: dnL m 0 := by
  induction r with
  | zero => exact List.prefix_refl _
  | succ r ih => exact List.IsPrefix.trans ⟨[r], (dnL_next h).symm⟩ (ih (by omega))
theorem dnL_len (m r : Nat) : (dnL m r).length = m - r := by simp [dnL]
section
variable {F : Fence} {n : Nat} {dst : Option Tmp} {t : TypeId} {pos : String} {after : Array Edge} {guard : Option (Nat × Bool)} {x y : Operand} {a : Act} {w w' : World} {K : Act → World → Prop} {Q : Exit → Act → World → Prop} {v : Value}
theorem wpIn_ldW (hv : loadV Try.prog 69 513 w (a.eval x) = .ok v w) (h : K (a.put dst v) w) : Oper.wpIn F n Try.prog { dst, op := Op.load 69 x, type := t, pos, after, guard } a w K Q := by
  refine ⟨fun f hf => by simp [Oper.about] at hf, ?_⟩
  rw [Oper.semAt_eq _ _ _ (fun c => by simp), load_W, hv]
  exact h
theorem wpIn_alW (h : K (a.put dst (.pointer (some ⟨w.heap.size, 0, none⟩))) (w.alloc (.cells zWc 69))) : Oper.wpIn F n Try.prog { dst, op := Op.alloc 69, type := t, pos, after, guard } a w K Q := by
  refine ⟨fun f hf => by simp [Oper.about] at hf, ?_⟩
  rw [Oper.semAt_eq _ _ _ (fun c => by simp), alloc_W]
  exact h
theorem wpIn_stW (hv : storeV Try.prog 69 513 w (a.eval x) (a.eval y) = .ok () w') (h : K (a.put dst undef) w') : Oper.wpIn F n Try.prog { dst, op := Op.store 69 x y, type := t, pos, after, guard } a w K Q := by
  refine ⟨fun f hf => by simp [Oper.about] at hf, ?_⟩
  rw [Oper.semAt_eq _ _ _ (fun c => by simp), store_W, hv]
  exact h
end
def wEnc (P : Nat → Nat) (D : Nat → Nat → Int) (x : Nat) : Array Value := #[.int .i64 (x : Nat), wV (P x : Nat) (D x)]
set_option maxRecDepth 100000 in
set_option maxHeartbeats 2000000 in
theorem back1_in (F : Fence) (n : Nat) (hF : F.fn 37) (hro : F.round = none) (hn : 1 ≤ n) (l bx n₀ : Nat) (A : Option Addr) (m c : Nat) (P : Nat → Nat) (D : Nat → Nat → Int) (hmc : m ≤ c) (hc : c ≤ maxLen) (hm : m ≤ 100000) (J Jx : List Nat → World → Prop)
    (hY : ∀ pre x W, J pre W → pre.length < m → YieldAt F (n - 1) Try.prog l (wEnc P D x) W fun e W' =>
      (e = .returned (.bool true) ∧ J (pre ++ [x]) W' ∧ Below n₀ W W') ∨ (e = .returned (.bool false) ∧ Jx (pre ++ [x]) W'))
    (W : World) (hW : n₀ ≤ W.heap.size) (hbn : bx < n₀) (hbx : W.cell? ⟨bx, 0, none⟩ = some (.slice A m c)) (hO : OwnS W 0 69 513 (.slice A m c) m (fun i => wcl (P i) (D i))) (hOl : ∀ b, (Value.slice A m c).ownBlock = some b → b < n₀) (h0 : J [] W) :
    CallsIn F n Try.prog 37 #[.func (.yield l) #[] #[], .pointer (some ⟨bx, 0, none⟩)] W fun e W' => (∃ v, e = .returned v) ∧ ((∃ ys, ys = dnL m 0 ∧ J ys W') ∨ (∃ pre, pre <+: dnL m 0 ∧ Jx pre W')) := by
  unfold maxLen at hc
  replace hO := Lib.hid hO
  replace hOl := Lib.hid hOl
  refine callsIn_of_wp Try.func37 rfl hF ?_ hro
  simp only [Try.ntmps37, List.size_toArray, List.length_cons, List.length_nil, Nat.reduceAdd, Nat.reduceSub, Array.replicate_succ, Array.replicate_zero, List.push_toArray, List.append_toArray, List.nil_append, List.cons_append]
  gi_wp2
  gi_loopw [3] (fun p wr => ∃ (r : Nat), r ≤ m ∧ p = .int .i64 ((r : Int) - 1) ∧ J (dnL m r) wr ∧ Hid (Below n₀ W wr)) (fun p wr => (intOf p + 1).toNat)
  case atStart => exact ⟨m, Nat.le_refl _, rfl, by rw [dnL_top]; exact h0, Below.refl _ _⟩
  case round =>
    obtain ⟨r, hr, rfl, hJ, hb⟩ := hrel
    have z0 : wr.cell? ⟨bx, 0, none⟩ = some (.slice A m c) := (hb.out.cell (p := ⟨bx, 0, none⟩) hbn).trans hbx
    cases r with
    | zero =>
      gi_wp2
      go_end0
      exact ⟨⟨_, rfl⟩, .inl ⟨_, rfl, hJ⟩⟩
    | succ r =>
      have hOr : OwnS wr 0 69 513 (.slice A m c) m (fun i => wcl (P i) (D i)) := hO.out.tch (S := fun k => n₀ ≤ k) ⟨hb.out.os, hb.out.tape, hb.out.output, hb.out.size, fun k _ hk => hb.out.block k (by omega)⟩ (fun b x y => by have := hOl.out b x; omega)
      obtain ⟨gw, capw, Fw, ew, _, hw4, hw5, hw6, hw7, hw8⟩ := hOr.row (fun i => wcl_len _ _) (by omega)
      cases ew
      have hLW := ld_W hw6 hw7 (show r < m by omega) hw4 hw8
      obtain ⟨fn, tmps, assign, body, hy, hR⟩ := hY (dnL m (r + 1)) r wr hJ (by rw [dnL_len]; omega)
      unfold wEnc at hy
      clear hw6 hw7 hw8 hOr
      gi_wp2
      refine wpIn_ldW hLW ?_
      gi_wp2
      refine hR.mono ?_
      rintro e W3 (⟨rfl, hJ3, hk3⟩ | ⟨rfl, hJx3⟩)
      · gi_wp2
        go_roundw
        case rel => exact ⟨r, by omega, rfl, by rw [dnL_next (by omega)]; exact hJ3, Lib.hid (hb.out.trans hk3)⟩
        case measure => simp [intOf]
      · gi_wp2
        refine bodyPost_ret (results_none rfl _ _ _) rfl ?_
        exact ⟨⟨_, rfl⟩, .inr ⟨dnL m (r + 1) ++ [r], by rw [← dnL_next (by omega)]; exact dnL_pre (by omega), hJx3⟩⟩
set_option maxHeartbeats 1000000 in
theorem back_in (F : Fence) (n : Nat) (hF : F.fn 27) (hro : F.round = none) (v : Value) (hv : v.oneCell' = true) (w : World) :
    CallsIn F n Try.prog 27 #[v] w fun e w' => e = .returned (.func (.func 37) #[] #[.pointer (some ⟨w.heap.size, 0, none⟩)]) ∧ w' = w.alloc (.cells #[v] 63) := by
  refine callsIn_of_wp Try.func27 rfl hF ?_ hro
  simp only [Try.ntmps27, List.size_toArray, List.length_cons, List.length_nil, Nat.reduceAdd, Nat.reduceSub, Array.replicate_succ, Array.replicate_zero, List.push_toArray, List.append_toArray, List.nil_append, List.cons_append]
  gi_wp2
  go_ret
  exact ⟨rfl, rfl⟩
theorem back_stops (F : Fence) (n : Nat) (hF : F.fn 37) (hro : F.round = none) (hn : 1 ≤ n) (bx : Nat) (A : Option Addr) (m c : Nat) (P : Nat → Nat) (D : Nat → Nat → Int) (hmc : m ≤ c) (hc : c ≤ maxLen) (hm : m ≤ 100000) (w : World) (hbn : bx < w.heap.size) (hbx : w.cell? ⟨bx, 0, none⟩ = some (.slice A m c)) (hO : OwnS w 0 69 513 (.slice A m c) m (fun i => wcl (P i) (D i))) :
    SeqStopsK F n Try.prog 37 #[.pointer (some ⟨bx, 0, none⟩)] (wEnc P D) (Below w.heap.size) (fun ys => ys = dnL m 0) (fun pre => pre <+: dnL m 0) m w := fun l J Jx W hW _ _ hY h0 =>
  back1_in F n hF hro hn l bx w.heap.size A m c P D hmc hc hm J Jx hY W hW.size hbn ((hW.cell (p := ⟨bx, 0, none⟩) hbn).trans hbx) (hO.kept hW) (fun b x => hO.ltB b x) h0
end Go.Proofs.Ytnbfnlpepnbppaa
