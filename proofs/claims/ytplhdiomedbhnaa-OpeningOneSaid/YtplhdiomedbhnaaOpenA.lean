/-
  What becomes of an account that is there; the balances of one.
-/
import Derived.Test.YtplhdiomedbhnaaFirst
namespace Go.Proofs.Ytplhdiomedbhnaa
set_option linter.unusedVariables false
set_option linter.unusedSimpArgs false
open Go.RowKit

def lB (l : List Bool) (k : Nat) : Bool := l.getD k false
def lI (l : List Int) (k : Nat) : Int := l.getD k 0

theorem firstV5 (b0 b1 b2 b3 b4 : Bool) (v0 v1 v2 v3 v4 : Int) : firstV (lB [b0, b1, b2, b3, b4]) (lI [v0, v1, v2, v3, v4]) 5 = if b0 then v0 else if b1 then v1 else if b2 then v2 else if b3 then v3 else if b4 then v4 else 0 := rfl
theorem firstV4 (b0 b1 b2 b3 : Bool) (v0 v1 v2 v3 : Int) : firstV (lB [b0, b1, b2, b3]) (lI [v0, v1, v2, v3]) 4 = if b0 then v0 else if b1 then v1 else if b2 then v2 else if b3 then v3 else 0 := rfl

theorem again_any (ai1 ai2 ap1 ap2 aq1 aq2 ar1 ar2 as1 as2 atg alg acd afl ast oi1 oi2 op1 op2 oq1 oq2 or1 or2 os1 os2 otg olg ocd ofl ost : Int) (w : World) : Calls Try.prog 14 #[.agg #[.int .u64 ai1, .int .u64 ai2, .int .u64 ap1, .int .u64 ap2, .int .u64 aq1, .int .u64 aq2, .int .u64 ar1, .int .u64 ar2, .int .u64 as1, .int .u64 as2, .int .u64 atg, .int .u32 alg, .int .u16 acd, .int .u16 afl, .int .u64 ast], .agg #[.int .u64 oi1, .int .u64 oi2, .int .u64 op1, .int .u64 op2, .int .u64 oq1, .int .u64 oq2, .int .u64 or1, .int .u64 or2, .int .u64 os1, .int .u64 os2, .int .u64 otg, .int .u32 olg, .int .u16 ocd, .int .u16 ofl, .int .u64 ost]] w fun r w' =>
      r = .returned (.int .u32 (firstV (lB [afl != bits .andNot .u16 ofl 16, atg != otg, alg != olg, acd != ocd, true]) (lI [7, 13, 14, 15, 16]) 5)) ∧ Below w.heap.size w w' := by
  go_enter Try.func14, Try.ntmps14
  go_wp2_with fail
  refine (gro (first_any (lB [afl != bits .andNot .u16 ofl 16, atg != otg, alg != olg, acd != ocd, true]) (lI [7, 13, 14, 15, 16]) 5 5 (w.heap.size + 1 + 1) _ (by simp) (by omega) ?_ ?_)).mono ?_
  · intro k hk
    rcases (by omega : k = 0 ∨ k = 1 ∨ k = 2 ∨ k = 3 ∨ k = 4) with rfl | rfl | rfl | rfl | rfl <;> simp [go_sem, lB]
  · intro k hk
    rcases (by omega : k = 0 ∨ k = 1 ∨ k = 2 ∨ k = 3 ∨ k = 4) with rfl | rfl | rfl | rfl | rfl <;> simp [go_sem, lI]
  rintro e w' ⟨rfl, d1, rfl⟩
  go_wp2
  go_ret
  exact ⟨rfl, (by repeat (first | exact Below.refl _ _ | assumption | refine below_drewN ?_ _ | refine bel_grow ?_ _ | refine Below.drew ?_ | refine bel_alloc ?_ _ | refine bel_set ?_ (by first | exact Nat.le_refl _ | (simp; done) | (simp; omega) | omega) _ | refine bel_trans ?_ (by assumption)))⟩

theorem balances_any (ai1 ai2 ap1 ap2 aq1 aq2 ar1 ar2 as1 as2 atg alg acd afl ast : Int) (w : World) : Calls Try.prog 15 #[.agg #[.int .u64 ai1, .int .u64 ai2, .int .u64 ap1, .int .u64 ap2, .int .u64 aq1, .int .u64 aq2, .int .u64 ar1, .int .u64 ar2, .int .u64 as1, .int .u64 as2, .int .u64 atg, .int .u32 alg, .int .u16 acd, .int .u16 afl, .int .u64 ast]] w fun r w' =>
      r = .returned (.agg #[.int .u64 ap1, .int .u64 ap2, .int .u64 aq1, .int .u64 aq2, .int .u64 ar1, .int .u64 ar2, .int .u64 as1, .int .u64 as2]) ∧ Below w.heap.size w w' := by
  go_enter Try.func15, Try.ntmps15
  go_wp2
  refine bodyPost_ret (v := .agg #[.int .u64 ap1, .int .u64 ap2, .int .u64 aq1, .int .u64 aq2, .int .u64 ar1, .int .u64 ar2, .int .u64 as1, .int .u64 as2]) (by simp [results, Try.results15, go_sem]) rfl ⟨rfl, ?_⟩
  (repeat (first | exact Below.refl _ _ | assumption | refine below_drewN ?_ _ | refine bel_grow ?_ _ | refine Below.drew ?_ | refine bel_alloc ?_ _ | refine bel_set ?_ (by first | exact Nat.le_refl _ | (simp; done) | (simp; omega) | omega) _ | refine bel_trans ?_ (by assumption)))
end Go.Proofs.Ytplhdiomedbhnaa
