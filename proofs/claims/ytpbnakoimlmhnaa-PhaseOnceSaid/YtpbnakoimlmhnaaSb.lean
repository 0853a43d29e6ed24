/-
  phase.Deadline, late, open, closed, walked.
-/
import Derived.Test.YtpbnakoimlmhnaaPhA
import Derived.Test.YtpbnakoimlmhnaaBk
namespace Go.Proofs.Ytpbnakoimlmhnaa
set_option linter.unusedVariables false
set_option linter.unusedSimpArgs false
open Go.RowKit

theorem load_Waits (ρ : Operand → Value) (dst : Option Tmp) (x : Operand) (t : TypeId) (pos : String) (after : Array Edge) (guard : Option (Nat × Bool)) (w : World) :
    (execOp ρ { dst, op := Op.load 66 x, type := t, pos, after, guard }).run Try.prog w = (loadV Try.prog 66 18 w (ρ x)).andThen fun v w' => .ok (.value v) w' :=
  exec_load_row Try.underlying66 rfl (by kernel_rfl) ρ dst x t pos after guard w
theorem store_Waits (ρ : Operand → Value) (dst : Option Tmp) (p x : Operand) (t : TypeId) (pos : String) (after : Array Edge) (guard : Option (Nat × Bool)) (w : World) :
    (execOp ρ { dst, op := Op.store 66 p x, type := t, pos, after, guard }).run Try.prog w = (storeV Try.prog 66 18 w (ρ p) (ρ x)).andThen fun _ w' => .ok .skip w' :=
  exec_store_row (by kernel_rfl) ρ dst p x t pos after guard w
attribute [local go_sem] loadV_ptr storeV_ptr
attribute [local go_sem ↓] load_Transfer store_Transfer load_Waits store_Waits load_Parties store_Parties
set_option maxRecDepth 8000 in
set_option maxHeartbeats 4000000 in
theorem deadline_any (yi1 yi2 yd1 yd2 yc1 yc2 ym1 ym2 yw1 yw2 ytg yto ylg ycd yfl yst : Int) (hto : 0 ≤ yto ∧ yto < 4294967296) (hst : 0 ≤ yst ∧ yst < 18446744073709551616) (b1 b2 : Bool) (h1 : (yto == 0) = b1) (h2 : decide (18446744073709551615 - yst < yto) = b2) (w : World) : Calls Try.prog 38 #[.agg #[.int .u64 yi1, .int .u64 yi2, .int .u64 yd1, .int .u64 yd2, .int .u64 yc1, .int .u64 yc2, .int .u64 ym1, .int .u64 ym2, .int .u64 yw1, .int .u64 yw2, .int .u64 ytg, .int .u32 yto, .int .u32 ylg, .int .u16 ycd, .int .u16 yfl, .int .u64 yst]] w fun r w' => r = .returned (.tuple #[.int .u64 (if (b1 || b2) = true then 0 else yst + yto), .bool (!(b1 || b2))]) ∧ Below w.heap.size w w' := by
  have e1 : IntKind.u64.wrap yto = yto := by simp [IntKind.wrap, IntKind.bits, IntKind.signed]; omega
  have e2 : IntKind.u64.wrap (18446744073709551615 - yst) = 18446744073709551615 - yst := by simp [IntKind.wrap, IntKind.bits, IntKind.signed]; omega
  cases b1
  case true =>
    clear h2
    go_enter Try.func38, Try.ntmps38
    go_wp2_with fail
    go_ret2
    exact ⟨rfl, by (repeat (first | exact Below.refl _ _ | assumption | refine below_drewN ?_ _ | refine bel_grow ?_ _ | refine Below.drew ?_ | refine bel_alloc ?_ _ | refine bel_set ?_ (by first | exact Nat.le_refl _ | (simp; done) | (simp; omega) | omega) _ | refine bel_trans ?_ (by assumption)))⟩
  case false =>
    cases b2
    case true =>
      go_enter Try.func38, Try.ntmps38
      go_wp2_with fail
      go_ret2
      exact ⟨rfl, by (repeat (first | exact Below.refl _ _ | assumption | refine below_drewN ?_ _ | refine bel_grow ?_ _ | refine Below.drew ?_ | refine bel_alloc ?_ _ | refine bel_set ?_ (by first | exact Nat.le_refl _ | (simp; done) | (simp; omega) | omega) _ | refine bel_trans ?_ (by assumption)))⟩
    case false =>
      have h3 := h2
      simp at h3
      have e3 : IntKind.u64.wrap (yst + yto) = yst + yto := by simp [IntKind.wrap, IntKind.bits, IntKind.signed]; omega
      clear h3
      go_enter Try.func38, Try.ntmps38
      go_wp2_with fail
      go_ret2
      exact ⟨rfl, by (repeat (first | exact Below.refl _ _ | assumption | refine below_drewN ?_ _ | refine bel_grow ?_ _ | refine Below.drew ?_ | refine bel_alloc ?_ _ | refine bel_set ?_ (by first | exact Nat.le_refl _ | (simp; done) | (simp; omega) | omega) _ | refine bel_trans ?_ (by assumption)))⟩
set_option maxRecDepth 8000 in
set_option maxHeartbeats 4000000 in
theorem late_any (yi1 yi2 yd1 yd2 yc1 yc2 ym1 ym2 yw1 yw2 ytg yto ylg ycd yfl yst s : Int) (hto : 0 ≤ yto ∧ yto < 4294967296) (hst : 0 ≤ yst ∧ yst < 18446744073709551616) (b1 b2 b3 : Bool) (h1 : (yto == 0) = b1) (h2 : decide (18446744073709551615 - yst < yto) = b2) (h3 : decide (yst + yto ≤ s) = b3) (w : World) : Calls Try.prog 82 #[.agg #[.int .u64 yi1, .int .u64 yi2, .int .u64 yd1, .int .u64 yd2, .int .u64 yc1, .int .u64 yc2, .int .u64 ym1, .int .u64 ym2, .int .u64 yw1, .int .u64 yw2, .int .u64 ytg, .int .u32 yto, .int .u32 ylg, .int .u16 ycd, .int .u16 yfl, .int .u64 yst], .int .u64 s] w fun r w' => r = .returned (.bool (!(b1 || b2) && b3)) ∧ Below w.heap.size w w' := by
  have HD := Lib.hid (fun w => deadline_any yi1 yi2 yd1 yd2 yc1 yc2 ym1 ym2 yw1 yw2 ytg yto ylg ycd yfl yst hto hst b1 b2 h1 h2 w)
  clear h1 h2 hto hst
  have hb0 := Below.refl w.heap.size w
  generalize hb : (b1 || b2) = b at *
  clear hb
  cases b
  case true =>
    clear h3
    go_enter Try.func82, Try.ntmps82
    replace hb0 := Lib.hid hb0
    go_wp2_with fail
    refine (HD.out _).mono ?_
    rintro e w_1 ⟨rfl, hb_1⟩
    have z_1 := hb_1.size
    try simp at z_1
    have t_ := hb0.out
    have hB_1 := bel_eld (w := w) (X := _) (by first | ((repeat (first | with_reducible exact Below.refl _ _ | with_reducible assumption | (with_reducible refine bel_set ?_ (by first | exact Nat.le_refl _ | (simp; done) | (simp; omega) | omega) _) | with_reducible refine bel_grow ?_ _ | with_reducible refine Below.drew ?_ | with_reducible refine below_drewN ?_ _ | with_reducible refine bel_alloc ?_ _ | with_reducible refine bel_trans ?_ (by assumption))); done) | (repeat (first | exact Below.refl _ _ | assumption | refine below_drewN ?_ _ | refine bel_grow ?_ _ | refine Below.drew ?_ | refine bel_alloc ?_ _ | refine bel_set ?_ (by first | exact Nat.le_refl _ | (simp; done) | (simp; omega) | omega) _ | refine bel_trans ?_ (by assumption)))) hb_1
    clear t_
    clear hb0 hb_1
    replace hB_1 := Lib.hid hB_1
    go_wp2_with fail
    go_ret
    exact ⟨rfl, by have t := hB_1.out; (repeat (first | with_reducible exact Below.refl _ _ | with_reducible assumption | (with_reducible refine bel_set ?_ (by first | exact Nat.le_refl _ | (simp; done) | (simp; omega) | omega) _) | with_reducible refine bel_grow ?_ _ | with_reducible refine Below.drew ?_ | with_reducible refine below_drewN ?_ _ | with_reducible refine bel_alloc ?_ _ | with_reducible refine bel_trans ?_ (by assumption)))⟩
  case false =>
    go_enter Try.func82, Try.ntmps82
    replace hb0 := Lib.hid hb0
    go_wp2_with fail
    refine (HD.out _).mono ?_
    rintro e w_1 ⟨rfl, hb_1⟩
    have z_1 := hb_1.size
    try simp at z_1
    have t_ := hb0.out
    have hB_1 := bel_eld (w := w) (X := _) (by first | ((repeat (first | with_reducible exact Below.refl _ _ | with_reducible assumption | (with_reducible refine bel_set ?_ (by first | exact Nat.le_refl _ | (simp; done) | (simp; omega) | omega) _) | with_reducible refine bel_grow ?_ _ | with_reducible refine Below.drew ?_ | with_reducible refine below_drewN ?_ _ | with_reducible refine bel_alloc ?_ _ | with_reducible refine bel_trans ?_ (by assumption))); done) | (repeat (first | exact Below.refl _ _ | assumption | refine below_drewN ?_ _ | refine bel_grow ?_ _ | refine Below.drew ?_ | refine bel_alloc ?_ _ | refine bel_set ?_ (by first | exact Nat.le_refl _ | (simp; done) | (simp; omega) | omega) _ | refine bel_trans ?_ (by assumption)))) hb_1
    clear t_
    clear hb0 hb_1
    replace hB_1 := Lib.hid hB_1
    go_wp2_with fail
    go_ret
    exact ⟨by simp [h3], by have t := hB_1.out; (repeat (first | with_reducible exact Below.refl _ _ | with_reducible assumption | (with_reducible refine bel_set ?_ (by first | exact Nat.le_refl _ | (simp; done) | (simp; omega) | omega) _) | with_reducible refine bel_grow ?_ _ | with_reducible refine Below.drew ?_ | with_reducible refine below_drewN ?_ _ | with_reducible refine bel_alloc ?_ _ | with_reducible refine bel_trans ?_ (by assumption)))⟩
def openV (c2 c3 c4 l : Bool) : Int := if c2 then 55 else if c3 then 56 else if c4 then 57 else if l then 57 else 0
set_option maxRecDepth 8000 in
set_option maxHeartbeats 4000000 in
theorem open_any (yi1 yi2 yd1 yd2 yc1 yc2 ym1 ym2 yw1 yw2 ytg yto ylg ycd yfl yst sv s : Int) (th : Bool) (hto : 0 ≤ yto ∧ yto < 4294967296) (hst : 0 ≤ yst ∧ yst < 18446744073709551616) (b1 b2 b3 c2 c3 c4 : Bool) (h1 : (yto == 0) = b1) (h2 : decide (18446744073709551615 - yst < yto) = b2) (h3 : decide (yst + yto ≤ s) = b3) (k2 : (sv == 2) = c2) (k3 : (sv == 3) = c3) (k4 : (sv == 4) = c4) (w : World) : Calls Try.prog 70 #[.agg #[.int .u64 yi1, .int .u64 yi2, .int .u64 yd1, .int .u64 yd2, .int .u64 yc1, .int .u64 yc2, .int .u64 ym1, .int .u64 ym2, .int .u64 yw1, .int .u64 yw2, .int .u64 ytg, .int .u32 yto, .int .u32 ylg, .int .u16 ycd, .int .u16 yfl, .int .u64 yst, .bool th, .int .u8 sv], .int .u64 s] w fun r w' => r = .returned (.int .u32 (openV c2 c3 c4 (!(b1 || b2) && b3))) ∧ Below w.heap.size w w' := by
  have HL := Lib.hid (fun w => late_any yi1 yi2 yd1 yd2 yc1 yc2 ym1 ym2 yw1 yw2 ytg yto ylg ycd yfl yst s hto hst b1 b2 b3 h1 h2 h3 w)
  clear h1 h2 h3 hto hst
  have hb0 := Below.refl w.heap.size w
  generalize (!(b1 || b2) && b3) = l at *
  cases c2
  case true =>
    go_enter Try.func70, Try.ntmps70
    go_wp2_with fail
    go_ret
    exact ⟨rfl, by (repeat (first | exact Below.refl _ _ | assumption | refine below_drewN ?_ _ | refine bel_grow ?_ _ | refine Below.drew ?_ | refine bel_alloc ?_ _ | refine bel_set ?_ (by first | exact Nat.le_refl _ | (simp; done) | (simp; omega) | omega) _ | refine bel_trans ?_ (by assumption)))⟩
  case false =>
  cases c3
  case true =>
    go_enter Try.func70, Try.ntmps70
    go_wp2_with fail
    go_ret
    exact ⟨rfl, by (repeat (first | exact Below.refl _ _ | assumption | refine below_drewN ?_ _ | refine bel_grow ?_ _ | refine Below.drew ?_ | refine bel_alloc ?_ _ | refine bel_set ?_ (by first | exact Nat.le_refl _ | (simp; done) | (simp; omega) | omega) _ | refine bel_trans ?_ (by assumption)))⟩
  case false =>
  cases c4
  case true =>
    go_enter Try.func70, Try.ntmps70
    go_wp2_with fail
    go_ret
    exact ⟨rfl, by (repeat (first | exact Below.refl _ _ | assumption | refine below_drewN ?_ _ | refine bel_grow ?_ _ | refine Below.drew ?_ | refine bel_alloc ?_ _ | refine bel_set ?_ (by first | exact Nat.le_refl _ | (simp; done) | (simp; omega) | omega) _ | refine bel_trans ?_ (by assumption)))⟩
  case false =>
  cases k1 : (sv == 1)
  all_goals (
    cases l
    all_goals (
      go_enter Try.func70, Try.ntmps70
      replace hb0 := Lib.hid hb0
      go_wp2_with fail
      refine (HL.out _).mono ?_
      rintro e w_1 ⟨rfl, hb_1⟩
      have z_1 := hb_1.size
      try simp at z_1
      have t_ := hb0.out
      have hB_1 := bel_eld (w := w) (X := _) (by first | ((repeat (first | with_reducible exact Below.refl _ _ | with_reducible assumption | (with_reducible refine bel_set ?_ (by first | exact Nat.le_refl _ | (simp; done) | (simp; omega) | omega) _) | with_reducible refine bel_grow ?_ _ | with_reducible refine Below.drew ?_ | with_reducible refine below_drewN ?_ _ | with_reducible refine bel_alloc ?_ _ | with_reducible refine bel_trans ?_ (by assumption))); done) | (repeat (first | exact Below.refl _ _ | assumption | refine below_drewN ?_ _ | refine bel_grow ?_ _ | refine Below.drew ?_ | refine bel_alloc ?_ _ | refine bel_set ?_ (by first | exact Nat.le_refl _ | (simp; done) | (simp; omega) | omega) _ | refine bel_trans ?_ (by assumption)))) hb_1
      clear t_
      clear hb0 hb_1
      replace hB_1 := Lib.hid hB_1
      go_wp2_with fail
      go_ret
      exact ⟨rfl, by have t := hB_1.out; (repeat (first | with_reducible exact Below.refl _ _ | with_reducible assumption | (with_reducible refine bel_set ?_ (by first | exact Nat.le_refl _ | (simp; done) | (simp; omega) | omega) _) | with_reducible refine bel_grow ?_ _ | with_reducible refine Below.drew ?_ | with_reducible refine below_drewN ?_ _ | with_reducible refine bel_alloc ?_ _ | with_reducible refine bel_trans ?_ (by assumption)))⟩))
def closedV (n4 d e : Bool) : Int := if n4 then 0 else if d then 33 else if e then 34 else 0
set_option maxRecDepth 8000 in
set_option maxHeartbeats 4000000 in
theorem closed_any (xi1 xi2 xd1 xd2 xc1 xc2 xm1 xm2 xw1 xw2 xtg xto xlg xcd xfl xst ai1 ai2 ap1 ap2 aq1 aq2 ar1 ar2 as1 as2 atg alg acd afl ast ei1 ei2 ep1 ep2 eq1 eq2 er1 er2 es1 es2 etg elg ecd efl est : Int) (hd hc n4 d e : Bool) (h4 : (bits .and .u16 xfl 4 == 0) = n4) (h5 : (bits .and .u16 afl 16 != 0) = d) (h6 : (bits .and .u16 efl 16 != 0) = e) (w : World) : Calls Try.prog 71 #[.agg #[.int .u64 xi1, .int .u64 xi2, .int .u64 xd1, .int .u64 xd2, .int .u64 xc1, .int .u64 xc2, .int .u64 xm1, .int .u64 xm2, .int .u64 xw1, .int .u64 xw2, .int .u64 xtg, .int .u32 xto, .int .u32 xlg, .int .u16 xcd, .int .u16 xfl, .int .u64 xst], .agg #[.int .u64 ai1, .int .u64 ai2, .int .u64 ap1, .int .u64 ap2, .int .u64 aq1, .int .u64 aq2, .int .u64 ar1, .int .u64 ar2, .int .u64 as1, .int .u64 as2, .int .u64 atg, .int .u32 alg, .int .u16 acd, .int .u16 afl, .int .u64 ast, .int .u64 ei1, .int .u64 ei2, .int .u64 ep1, .int .u64 ep2, .int .u64 eq1, .int .u64 eq2, .int .u64 er1, .int .u64 er2, .int .u64 es1, .int .u64 es2, .int .u64 etg, .int .u32 elg, .int .u16 ecd, .int .u16 efl, .int .u64 est, .bool hd, .bool hc]] w fun r w' => r = .returned (.int .u32 (closedV n4 d e)) ∧ Below w.heap.size w w' := by
  cases n4
  case true =>
    clear h5 h6
    go_enter Try.func71, Try.ntmps71
    go_wp2_with fail
    go_ret
    exact ⟨rfl, by (repeat (first | exact Below.refl _ _ | assumption | refine below_drewN ?_ _ | refine bel_grow ?_ _ | refine Below.drew ?_ | refine bel_alloc ?_ _ | refine bel_set ?_ (by first | exact Nat.le_refl _ | (simp; done) | (simp; omega) | omega) _ | refine bel_trans ?_ (by assumption)))⟩
  case false =>
  cases d
  case true =>
    clear h6
    go_enter Try.func71, Try.ntmps71
    go_wp2_with fail
    go_ret
    exact ⟨rfl, by (repeat (first | exact Below.refl _ _ | assumption | refine below_drewN ?_ _ | refine bel_grow ?_ _ | refine Below.drew ?_ | refine bel_alloc ?_ _ | refine bel_set ?_ (by first | exact Nat.le_refl _ | (simp; done) | (simp; omega) | omega) _ | refine bel_trans ?_ (by assumption)))⟩
  case false =>
  cases e
  all_goals (
    go_enter Try.func71, Try.ntmps71
    go_wp2_with fail
    go_ret
    exact ⟨rfl, by (repeat (first | exact Below.refl _ _ | assumption | refine below_drewN ?_ _ | refine bel_grow ?_ _ | refine Below.drew ?_ | refine bel_alloc ?_ _ | refine bel_set ?_ (by first | exact Nat.le_refl _ | (simp; done) | (simp; omega) | omega) _ | refine bel_trans ?_ (by assumption)))⟩)
end Go.Proofs.Ytpbnakoimlmhnaa
