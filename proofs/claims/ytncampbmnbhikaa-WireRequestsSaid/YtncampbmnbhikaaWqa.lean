/-
  wire.PutRequest, walked: the bytes of requests, kind by kind.
-/
import Derived.Test.YtncampbmnbhikaaJ11
import Derived.Test.YtncampbmnbhikaaJ12
import Derived.Test.YtncampbmnbhikaaRecD
import Derived.Test.YtncampbmnbhikaaJ7
namespace Go.Proofs.Ytncampbmnbhikaa
set_option linter.unusedVariables false
set_option linter.unusedSimpArgs false
open Go.RowKit

/-- the byte ahead of a request's rows -/
def hd1 (k : Int) : Nat → Int := fun _ => k
theorem own_hd1 {w W : World} {k : Int} {base g : Nat} (hb : base ≤ W.heap.size) (hg : g = W.heap.size) : OwnB (W.alloc (.cells #[.int .u8 k] 5)) base (.slice (some ⟨g, 0, none⟩) 1 1) 1 (hd1 k) := own_oneE hb hg rfl
set_option maxRecDepth 8000 in
set_option maxHeartbeats 4000000 in
theorem putReq_k1 (AA TA UA : Option Addr) (an ac tn tc un uc : Nat) (fa fb fc fd fe ff : Int) (F : Nat → Nat → Int) (w : World) (hF : ∀ i, okA (F i)) (hn : an ≤ 5000) (hs : SsIs w AA an 15 (fun i => clA (F i))) :
    Calls Try.prog 13 #[.agg #[.int .i64 1, .slice AA an ac, .slice TA tn tc, .slice UA un uc, .int .u64 fa, .int .u64 fb, .int .u64 fc, .int .u64 fd, .int .u32 fe, .int .u32 ff]] w fun r w' => ∃ v', r = .returned v' ∧ OwnB w' w.heap.size v' (1 + an * 104) (cat (hd1 1) 1 (rowsF 104 fun i => byA (F i))) ∧ Below w.heap.size w w' := by
  have HR := Lib.hid (fun (v : Value) (W : World) (hb : Below w.heap.size w W) (ho : OwnB W w.heap.size v 1 (hd1 1)) => rowsA_any v 1 (hd1 1) AA an ac F w.heap.size W hF hn (by omega) ho hb.size (fun X hX => hs.below (hb.trans hX)))
  go_enter Try.func13, Try.ntmps13
  go_wp2_with fail
  refine (HR.out _ _ (bel_alloc (bel_alloc (Below.refl _ _) _) _) (own_hd1 (w := w) (by simp) (by simp))).mono ?_
  rintro e2 w2 ⟨v2, rfl, ho2, hb2⟩
  go_wp2_with fail
  go_ret
  exact ⟨_, rfl, ho2, (bel_alloc (bel_alloc (Below.refl _ _) _) _).trans hb2⟩
set_option maxRecDepth 8000 in
set_option maxHeartbeats 4000000 in
theorem putReq_k2 (AA TA UA : Option Addr) (an ac tn tc un uc : Nat) (fa fb fc fd fe ff : Int) (F : Nat → Nat → Int) (w : World) (hF : ∀ i, okT (F i)) (hn : tn ≤ 5000) (hs : SsIs w TA tn 16 (fun i => clT (F i))) :
    Calls Try.prog 13 #[.agg #[.int .i64 2, .slice AA an ac, .slice TA tn tc, .slice UA un uc, .int .u64 fa, .int .u64 fb, .int .u64 fc, .int .u64 fd, .int .u32 fe, .int .u32 ff]] w fun r w' => ∃ v', r = .returned v' ∧ OwnB w' w.heap.size v' (1 + tn * 108) (cat (hd1 2) 1 (rowsF 108 fun i => byT (F i))) ∧ Below w.heap.size w w' := by
  have HR := Lib.hid (fun (v : Value) (W : World) (hb : Below w.heap.size w W) (ho : OwnB W w.heap.size v 1 (hd1 2)) => rowsT_any v 1 (hd1 2) TA tn tc F w.heap.size W hF hn (by omega) ho hb.size (fun X hX => hs.below (hb.trans hX)))
  go_enter Try.func13, Try.ntmps13
  go_wp2_with fail
  refine (HR.out _ _ (bel_alloc (bel_alloc (Below.refl _ _) _) _) (own_hd1 (w := w) (by simp) (by simp))).mono ?_
  rintro e2 w2 ⟨v2, rfl, ho2, hb2⟩
  go_wp2_with fail
  go_ret
  exact ⟨_, rfl, ho2, (bel_alloc (bel_alloc (Below.refl _ _) _) _).trans hb2⟩
set_option maxRecDepth 8000 in
set_option maxHeartbeats 4000000 in
theorem putReq_k3 (AA TA UA : Option Addr) (an ac tn tc un uc : Nat) (fa fb fc fd fe ff : Int) (F : Nat → Nat → Int) (w : World) (hF : ∀ i, okU (F i)) (hn : un ≤ 5000) (hs : SsIs w UA un 2 (fun i => clU (F i))) :
    Calls Try.prog 13 #[.agg #[.int .i64 3, .slice AA an ac, .slice TA tn tc, .slice UA un uc, .int .u64 fa, .int .u64 fb, .int .u64 fc, .int .u64 fd, .int .u32 fe, .int .u32 ff]] w fun r w' => ∃ v', r = .returned v' ∧ OwnB w' w.heap.size v' (1 + un * 16) (cat (hd1 3) 1 (rowsF 16 fun i => byU (F i))) ∧ Below w.heap.size w w' := by
  have HR := Lib.hid (fun (v : Value) (W : World) (hb : Below w.heap.size w W) (ho : OwnB W w.heap.size v 1 (hd1 3)) => rowsU_any v 1 (hd1 3) UA un uc F w.heap.size W hF hn (by omega) ho hb.size (fun X hX => hs.below (hb.trans hX)))
  go_enter Try.func13, Try.ntmps13
  go_wp2_with fail
  refine (HR.out _ _ (bel_alloc (bel_alloc (Below.refl _ _) _) _) (own_hd1 (w := w) (by simp) (by simp))).mono ?_
  rintro e2 w2 ⟨v2, rfl, ho2, hb2⟩
  go_wp2_with fail
  go_ret
  exact ⟨_, rfl, ho2, (bel_alloc (bel_alloc (Below.refl _ _) _) _).trans hb2⟩
set_option maxRecDepth 8000 in
set_option maxHeartbeats 4000000 in
theorem putReq_k4 (AA TA UA : Option Addr) (an ac tn tc un uc : Nat) (fa fb fc fd fe ff : Int) (F : Nat → Nat → Int) (w : World) (hF : ∀ i, okU (F i)) (hn : un ≤ 5000) (hs : SsIs w UA un 2 (fun i => clU (F i))) :
    Calls Try.prog 13 #[.agg #[.int .i64 4, .slice AA an ac, .slice TA tn tc, .slice UA un uc, .int .u64 fa, .int .u64 fb, .int .u64 fc, .int .u64 fd, .int .u32 fe, .int .u32 ff]] w fun r w' => ∃ v', r = .returned v' ∧ OwnB w' w.heap.size v' (1 + un * 16) (cat (hd1 4) 1 (rowsF 16 fun i => byU (F i))) ∧ Below w.heap.size w w' := by
  have HR := Lib.hid (fun (v : Value) (W : World) (hb : Below w.heap.size w W) (ho : OwnB W w.heap.size v 1 (hd1 4)) => rowsU_any v 1 (hd1 4) UA un uc F w.heap.size W hF hn (by omega) ho hb.size (fun X hX => hs.below (hb.trans hX)))
  go_enter Try.func13, Try.ntmps13
  go_wp2_with fail
  refine (HR.out _ _ (bel_alloc (bel_alloc (Below.refl _ _) _) _) (own_hd1 (w := w) (by simp) (by simp))).mono ?_
  rintro e2 w2 ⟨v2, rfl, ho2, hb2⟩
  go_wp2_with fail
  go_ret
  exact ⟨_, rfl, ho2, (bel_alloc (bel_alloc (Below.refl _ _) _) _).trans hb2⟩
set_option maxRecDepth 8000 in
set_option maxHeartbeats 4000000 in
theorem putReq_k5 (AA TA UA : Option Addr) (an ac tn tc un uc : Nat) (fa fb fc fd fe ff : Int) (ha : 0 ≤ fa ∧ fa < 18446744073709551616) (hb : 0 ≤ fb ∧ fb < 18446744073709551616) (hc : 0 ≤ fc ∧ fc < 18446744073709551616) (hd : 0 ≤ fd ∧ fd < 18446744073709551616) (he : 0 ≤ fe ∧ fe < 4294967296) (hf : 0 ≤ ff ∧ ff < 4294967296) (w : World) :
    Calls Try.prog 13 #[.agg #[.int .i64 5, .slice AA an ac, .slice TA tn tc, .slice UA un uc, .int .u64 fa, .int .u64 fb, .int .u64 fc, .int .u64 fd, .int .u32 fe, .int .u32 ff]] w fun r w' => ∃ v', r = .returned v' ∧ OwnB w' w.heap.size v' 41 (cat (hd1 5) 1 (putFilterD fa fb fc fd fe ff)) ∧ Below w.heap.size w w' := by
  have HR := Lib.hid (fun (W : World) => putFilter_any fa fb fc fd fe ff ha hb hc hd he hf W)
  generalize putFilterD fa fb fc fd fe ff = Q at *
  clear ha hb hc hd he hf
  go_enter Try.func13, Try.ntmps13
  go_wp2_with fail
  refine (HR.out _).mono ?_
  rintro e2 w2 ⟨v2, rfl, ho2, hb2⟩
  obtain ⟨A2, c2, rfl, hq1, hq2, hs2⟩ := ho2.byS
  have hz2 := hb2.size
  simp at hz2
  have hb3 := Lib.hid ((bel_alloc (bel_alloc (Below.refl _ _) _) _ : Below w.heap.size w _).trans (hb2.mono (by simp; omega)))
  have hO := Lib.hid (OwnB.kept (own_hd1 (w := w) (W := w.alloc (.cells #[.int .i64 5, .slice AA an ac, .slice TA tn tc, .slice UA un uc, .int .u64 fa, .int .u64 fb, .int .u64 fc, .int .u64 fd, .int .u32 fe, .int .u32 ff] 46)) (k := 5) (base := w.heap.size) (g := w.heap.size + 1) (by simp) (by simp)) hb2)
  replace hs2 := Lib.hid hs2
  clear hb2 ho2
  go_wp2_with (at_builtin; go_loud (refine wpList_appB rfl (.tmp 32) (.tmp 35) rfl rfl rfl hO.out hs2.out (by omega) (by omega) ?_; intro v5 w5 ho5 hb5))
  go_ret
  exact ⟨_, rfl, ho5, hb3.out.trans hb5⟩
set_option maxRecDepth 8000 in
set_option maxHeartbeats 4000000 in
theorem putReq_k6 (AA TA UA : Option Addr) (an ac tn tc un uc : Nat) (fa fb fc fd fe ff : Int) (ha : 0 ≤ fa ∧ fa < 18446744073709551616) (hb : 0 ≤ fb ∧ fb < 18446744073709551616) (hc : 0 ≤ fc ∧ fc < 18446744073709551616) (hd : 0 ≤ fd ∧ fd < 18446744073709551616) (he : 0 ≤ fe ∧ fe < 4294967296) (hf : 0 ≤ ff ∧ ff < 4294967296) (w : World) :
    Calls Try.prog 13 #[.agg #[.int .i64 6, .slice AA an ac, .slice TA tn tc, .slice UA un uc, .int .u64 fa, .int .u64 fb, .int .u64 fc, .int .u64 fd, .int .u32 fe, .int .u32 ff]] w fun r w' => ∃ v', r = .returned v' ∧ OwnB w' w.heap.size v' 41 (cat (hd1 6) 1 (putFilterD fa fb fc fd fe ff)) ∧ Below w.heap.size w w' := by
  have HR := Lib.hid (fun (W : World) => putFilter_any fa fb fc fd fe ff ha hb hc hd he hf W)
  generalize putFilterD fa fb fc fd fe ff = Q at *
  clear ha hb hc hd he hf
  go_enter Try.func13, Try.ntmps13
  go_wp2_with fail
  refine (HR.out _).mono ?_
  rintro e2 w2 ⟨v2, rfl, ho2, hb2⟩
  obtain ⟨A2, c2, rfl, hq1, hq2, hs2⟩ := ho2.byS
  have hz2 := hb2.size
  simp at hz2
  have hb3 := Lib.hid ((bel_alloc (bel_alloc (Below.refl _ _) _) _ : Below w.heap.size w _).trans (hb2.mono (by simp; omega)))
  have hO := Lib.hid (OwnB.kept (own_hd1 (w := w) (W := w.alloc (.cells #[.int .i64 6, .slice AA an ac, .slice TA tn tc, .slice UA un uc, .int .u64 fa, .int .u64 fb, .int .u64 fc, .int .u64 fd, .int .u32 fe, .int .u32 ff] 46)) (k := 6) (base := w.heap.size) (g := w.heap.size + 1) (by simp) (by simp)) hb2)
  replace hs2 := Lib.hid hs2
  clear hb2 ho2
  go_wp2_with (at_builtin; go_loud (refine wpList_appB rfl (.tmp 32) (.tmp 35) rfl rfl rfl hO.out hs2.out (by omega) (by omega) ?_; intro v5 w5 ho5 hb5))
  go_ret
  exact ⟨_, rfl, ho5, hb3.out.trans hb5⟩
set_option maxRecDepth 8000 in
set_option maxHeartbeats 4000000 in
theorem putReq_k7 (AA TA UA : Option Addr) (an ac tn tc un uc : Nat) (fa fb fc fd fe ff : Int) (w : World) :
    Calls Try.prog 13 #[.agg #[.int .i64 7, .slice AA an ac, .slice TA tn tc, .slice UA un uc, .int .u64 fa, .int .u64 fb, .int .u64 fc, .int .u64 fd, .int .u32 fe, .int .u32 ff]] w fun r w' => ∃ v', r = .returned v' ∧ OwnB w' w.heap.size v' 1 (hd1 7) ∧ Below w.heap.size w w' := by
  go_enter Try.func13, Try.ntmps13
  go_wp2_with fail
  go_ret
  exact ⟨_, rfl, own_hd1 (w := w) (by simp) (by simp), by (repeat (first | exact Below.refl _ _ | assumption | refine below_drewN ?_ _ | refine bel_grow ?_ _ | refine Below.drew ?_ | refine bel_alloc ?_ _ | refine bel_set ?_ (by first | exact Nat.le_refl _ | (simp; done) | (simp; omega) | omega) _ | refine bel_trans ?_ (by assumption)))⟩
set_option maxRecDepth 8000 in
set_option maxHeartbeats 4000000 in
theorem putReq_kd (AA TA UA : Option Addr) (an ac tn tc un uc : Nat) (fa fb fc fd fe ff : Int) (kd : Int) (w : World) (h : kd < 1 ∨ 7 < kd) :
    Calls Try.prog 13 #[.agg #[.int .i64 kd, .slice AA an ac, .slice TA tn tc, .slice UA un uc, .int .u64 fa, .int .u64 fb, .int .u64 fc, .int .u64 fd, .int .u32 fe, .int .u32 ff]] w fun r w' => r = .returned (.slice none 0 0) ∧ Below w.heap.size w w' := by
  have e1 : (kd == 1) = false := beq_eq_false_iff_ne.2 (by omega)
  have e2 : (kd == 2) = false := beq_eq_false_iff_ne.2 (by omega)
  have e3 : (kd == 3) = false := beq_eq_false_iff_ne.2 (by omega)
  have e4 : (kd == 4) = false := beq_eq_false_iff_ne.2 (by omega)
  have e5 : (kd == 5) = false := beq_eq_false_iff_ne.2 (by omega)
  have e6 : (kd == 6) = false := beq_eq_false_iff_ne.2 (by omega)
  have e7 : (kd == 7) = false := beq_eq_false_iff_ne.2 (by omega)
  go_enter Try.func13, Try.ntmps13
  go_wp2_with fail
  go_ret
  exact ⟨rfl, by (repeat (first | exact Below.refl _ _ | assumption | refine below_drewN ?_ _ | refine bel_grow ?_ _ | refine Below.drew ?_ | refine bel_alloc ?_ _ | refine bel_set ?_ (by first | exact Nat.le_refl _ | (simp; done) | (simp; omega) | omega) _ | refine bel_trans ?_ (by assumption)))⟩
end Go.Proofs.Ytncampbmnbhikaa
