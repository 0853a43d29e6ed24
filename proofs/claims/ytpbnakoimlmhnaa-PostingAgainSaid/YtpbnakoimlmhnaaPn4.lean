/-
  posting's sums, walked.
-/
import Derived.Test.YtpbnakoimlmhnaaBk
import Derived.Deep.DeepCutAuto
import Derived.Test.YtpbnakoimlmhnaaEq
namespace Go.Proofs.Ytpbnakoimlmhnaa
set_option linter.unusedVariables false
set_option linter.unusedSimpArgs false
open Go.RowKit

attribute [local go_sem] loadV_ptr storeV_ptr one_func drew_hs ext_deb ext_cre ext_cols ext_acc
attribute [local go_sem ↓] load_Cols store_Cols load_Transfer store_Transfer load_Parties store_Parties load_Acct store_Acct
theorem load_Askd (ρ : Operand → Value) (dst : Option Tmp) (x : Operand) (t : TypeId) (pos : String) (after : Array Edge) (guard : Option (Nat × Bool)) (w : World) :
    (execOp ρ { dst, op := Op.load 95 x, type := t, pos, after, guard }).run Try.prog w = (loadV Try.prog 95 52 w (ρ x)).andThen fun v w' => .ok (.value v) w' :=
  exec_load_row Try.underlying95 rfl (by kernel_rfl) ρ dst x t pos after guard w
theorem store_Askd (ρ : Operand → Value) (dst : Option Tmp) (p x : Operand) (t : TypeId) (pos : String) (after : Array Edge) (guard : Option (Nat × Bool)) (w : World) :
    (execOp ρ { dst, op := Op.store 95 p x, type := t, pos, after, guard }).run Try.prog w = (storeV Try.prog 95 52 w (ρ p) (ρ x)).andThen fun _ w' => .ok .skip w' :=
  exec_store_row (by kernel_rfl) ρ dst p x t pos after guard w
theorem ext_asked (v0 v1 v2 v3 v4 v5 v6 v7 v8 v9 v10 v11 v12 v13 v14 v15 v16 v17 v18 v19 v20 v21 v22 v23 v24 v25 v26 v27 v28 v29 v30 v31 v32 v33 v34 v35 v36 v37 v38 v39 v40 v41 v42 v43 v44 v45 v46 v47 v48 v49 v50 v51 : Value) : #[v0, v1, v2, v3, v4, v5, v6, v7, v8, v9, v10, v11, v12, v13, v14, v15, v16, v17, v18, v19, v20, v21, v22, v23, v24, v25, v26, v27, v28, v29, v30, v31, v32, v33, v34, v35, v36, v37, v38, v39, v40, v41, v42, v43, v44, v45, v46, v47, v48, v49, v50, v51].extract 0 52 = #[v0, v1, v2, v3, v4, v5, v6, v7, v8, v9, v10, v11, v12, v13, v14, v15, v16, v17, v18, v19, v20, v21, v22, v23, v24, v25, v26, v27, v28, v29, v30, v31, v32, v33, v34, v35, v36, v37, v38, v39, v40, v41, v42, v43, v44, v45, v46, v47, v48, v49, v50, v51] := Array.extract_eq_self_of_le (Nat.le_of_eq rfl)
attribute [local go_sem] ext_asked
attribute [local go_sem ↓] load_Askd store_Askd
set_option maxRecDepth 8000 in
set_option maxHeartbeats 8000000 in
theorem pexc_any (xi1 xi2 xd1 xd2 xc1 xc2 xm1 xm2 xw1 xw2 xtg xto xlg xcd xfl xst ss ai1 ai2 ap1 ap2 aq1 aq2 ar1 ar2 as1 as2 atg alg acd afl ast ei1 ei2 ep1 ep2 eq1 eq2 er1 er2 es1 es2 etg elg ecd efl est qa1 qa2 rv : Int) (hd hc e42 e43 : Bool) (h42 : (rv == 42) = e42) (h43 : (rv == 43) = e43) (w : World) : Calls Try.prog 81 #[.agg #[.int .u64 xi1, .int .u64 xi2, .int .u64 xd1, .int .u64 xd2, .int .u64 xc1, .int .u64 xc2, .int .u64 xm1, .int .u64 xm2, .int .u64 xw1, .int .u64 xw2, .int .u64 xtg, .int .u32 xto, .int .u32 xlg, .int .u16 xcd, .int .u16 xfl, .int .u64 xst, .int .u64 ss, .int .u64 ai1, .int .u64 ai2, .int .u64 ap1, .int .u64 ap2, .int .u64 aq1, .int .u64 aq2, .int .u64 ar1, .int .u64 ar2, .int .u64 as1, .int .u64 as2, .int .u64 atg, .int .u32 alg, .int .u16 acd, .int .u16 afl, .int .u64 ast, .int .u64 ei1, .int .u64 ei2, .int .u64 ep1, .int .u64 ep2, .int .u64 eq1, .int .u64 eq2, .int .u64 er1, .int .u64 er2, .int .u64 es1, .int .u64 es2, .int .u64 etg, .int .u32 elg, .int .u16 ecd, .int .u16 efl, .int .u64 est, .bool hd, .bool hc, .int .u64 qa1, .int .u64 qa2, .int .u32 rv]] w fun r w' => r = .returned (.bool (e42 || e43)) ∧ Below w.heap.size w w' := by
  cases e42
  case false =>
    go_enter Try.func81, Try.ntmps81
    go_wp2_with fail
    go_ret
    exact ⟨by simp [h43], by (repeat (first | exact Below.refl _ _ | assumption | refine below_drewN ?_ _ | refine bel_grow ?_ _ | refine Below.drew ?_ | refine bel_alloc ?_ _ | refine bel_set ?_ (by first | exact Nat.le_refl _ | (simp; done) | (simp; omega) | omega) _ | refine bel_trans ?_ (by assumption)))⟩
  case true =>
    go_enter Try.func81, Try.ntmps81
    go_wp2_with fail
    go_ret
    exact ⟨rfl, by (repeat (first | exact Below.refl _ _ | assumption | refine below_drewN ?_ _ | refine bel_grow ?_ _ | refine Below.drew ?_ | refine bel_alloc ?_ _ | refine bel_set ?_ (by first | exact Nat.le_refl _ | (simp; done) | (simp; omega) | omega) _ | refine bel_trans ?_ (by assumption)))⟩
def psumsV (rv : Int) (e42 e43 ot : Bool) : Int := if rv ≠ 0 ∧ (e42 || e43) = false then rv else if ot then 41 else rv
set_option maxRecDepth 8000 in
set_option maxHeartbeats 8000000 in
theorem psums_any (xi1 xi2 xd1 xd2 xc1 xc2 xm1 xm2 xw1 xw2 xtg xto xlg xcd xfl xst ss ai1 ai2 ap1 ap2 aq1 aq2 ar1 ar2 as1 as2 atg alg acd afl ast ei1 ei2 ep1 ep2 eq1 eq2 er1 er2 es1 es2 etg elg ecd efl est qa1 qa2 rv : Int) (hd hc e42 e43 ot : Bool) (hto : 0 ≤ xto ∧ xto < 4294967296) (hss : 0 ≤ ss ∧ ss < 18446744073709551616) (h42 : (rv == 42) = e42) (h43 : (rv == 43) = e43) (hot : decide (18446744073709551615 - ss < xto) = ot) (w : World) : Calls Try.prog 60 #[.agg #[.int .u64 xi1, .int .u64 xi2, .int .u64 xd1, .int .u64 xd2, .int .u64 xc1, .int .u64 xc2, .int .u64 xm1, .int .u64 xm2, .int .u64 xw1, .int .u64 xw2, .int .u64 xtg, .int .u32 xto, .int .u32 xlg, .int .u16 xcd, .int .u16 xfl, .int .u64 xst, .int .u64 ss, .int .u64 ai1, .int .u64 ai2, .int .u64 ap1, .int .u64 ap2, .int .u64 aq1, .int .u64 aq2, .int .u64 ar1, .int .u64 ar2, .int .u64 as1, .int .u64 as2, .int .u64 atg, .int .u32 alg, .int .u16 acd, .int .u16 afl, .int .u64 ast, .int .u64 ei1, .int .u64 ei2, .int .u64 ep1, .int .u64 ep2, .int .u64 eq1, .int .u64 eq2, .int .u64 er1, .int .u64 er2, .int .u64 es1, .int .u64 es2, .int .u64 etg, .int .u32 elg, .int .u16 ecd, .int .u16 efl, .int .u64 est, .bool hd, .bool hc, .int .u64 qa1, .int .u64 qa2, .int .u32 rv]] w fun r w' => r = .returned (.int .u32 (psumsV rv e42 e43 ot)) ∧ Below w.heap.size w w' := by
  have HE := Lib.hid (fun w => pexc_any xi1 xi2 xd1 xd2 xc1 xc2 xm1 xm2 xw1 xw2 xtg xto xlg xcd xfl xst ss ai1 ai2 ap1 ap2 aq1 aq2 ar1 ar2 as1 as2 atg alg acd afl ast ei1 ei2 ep1 ep2 eq1 eq2 er1 er2 es1 es2 etg elg ecd efl est qa1 qa2 rv hd hc e42 e43 h42 h43 w)
  have e1 : IntKind.u64.wrap xto = xto := by simp [IntKind.wrap, IntKind.bits, IntKind.signed]; omega
  have e2 : IntKind.u64.wrap (18446744073709551615 - ss) = 18446744073709551615 - ss := by simp [IntKind.wrap, IntKind.bits, IntKind.signed]; omega
  clear hto hss
  clear h42 h43
  unfold psumsV
  by_cases h0 : rv = 0
  case pos =>
    rw [if_neg (fun h => h.1 h0)]
    have k0 : (rv != 0) = false := by simpa using h0
    replace h0 := Lib.hid h0
    clear HE
    cases ot
    case false =>
      rw [if_neg (by decide)]
      go_enter Try.func60, Try.ntmps60
      go_wp2_with fail
      go_ret
      exact ⟨rfl, by (repeat (first | exact Below.refl _ _ | assumption | refine below_drewN ?_ _ | refine bel_grow ?_ _ | refine Below.drew ?_ | refine bel_alloc ?_ _ | refine bel_set ?_ (by first | exact Nat.le_refl _ | (simp; done) | (simp; omega) | omega) _ | refine bel_trans ?_ (by assumption)))⟩
    case true =>
      rw [if_pos rfl]
      go_enter Try.func60, Try.ntmps60
      go_wp2_with fail
      go_ret
      exact ⟨rfl, by (repeat (first | exact Below.refl _ _ | assumption | refine below_drewN ?_ _ | refine bel_grow ?_ _ | refine Below.drew ?_ | refine bel_alloc ?_ _ | refine bel_set ?_ (by first | exact Nat.le_refl _ | (simp; done) | (simp; omega) | omega) _ | refine bel_trans ?_ (by assumption)))⟩
  case neg =>
    have k0 : (rv != 0) = true := by simpa using h0
    generalize he : (e42 || e43) = ee at *
    clear he
    cases ee
    case false =>
      rw [if_pos ⟨h0, rfl⟩]
      replace h0 := Lib.hid h0
      go_enter Try.func60, Try.ntmps60
      go_wp2_with (go_at_call 81; (with_reducible refine (gro (HE.out _)).mono ?_); rintro e w1 ⟨rfl, d1, rfl⟩)
      go_ret
      exact ⟨rfl, by (repeat (first | exact Below.refl _ _ | assumption | refine below_drewN ?_ _ | refine bel_grow ?_ _ | refine Below.drew ?_ | refine bel_alloc ?_ _ | refine bel_set ?_ (by first | exact Nat.le_refl _ | (simp; done) | (simp; omega) | omega) _ | refine bel_trans ?_ (by assumption)))⟩
    case true =>
      rw [if_neg (fun h => by cases h.2)]
      replace h0 := Lib.hid h0
      cases ot
      case false =>
        rw [if_neg (by decide)]
        go_enter Try.func60, Try.ntmps60
        go_wp2_with (go_at_call 81; (with_reducible refine (gro (HE.out _)).mono ?_); rintro e w1 ⟨rfl, d1, rfl⟩)
        go_ret
        exact ⟨rfl, by (repeat (first | exact Below.refl _ _ | assumption | refine below_drewN ?_ _ | refine bel_grow ?_ _ | refine Below.drew ?_ | refine bel_alloc ?_ _ | refine bel_set ?_ (by first | exact Nat.le_refl _ | (simp; done) | (simp; omega) | omega) _ | refine bel_trans ?_ (by assumption)))⟩
      case true =>
        rw [if_pos rfl]
        go_enter Try.func60, Try.ntmps60
        go_wp2_with (go_at_call 81; (with_reducible refine (gro (HE.out _)).mono ?_); rintro e w1 ⟨rfl, d1, rfl⟩)
        go_ret
        exact ⟨rfl, by (repeat (first | exact Below.refl _ _ | assumption | refine below_drewN ?_ _ | refine bel_grow ?_ _ | refine Below.drew ?_ | refine bel_alloc ?_ _ | refine bel_set ?_ (by first | exact Nat.le_refl _ | (simp; done) | (simp; omega) | omega) _ | refine bel_trans ?_ (by assumption)))⟩
end Go.Proofs.Ytpbnakoimlmhnaa
