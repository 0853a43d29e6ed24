/-
  Joined: Wrd Wri RecE.
-/
import Derived.Test.YtncampbmnbhikaaJ11
import Derived.Test.YtncampbmnbhikaaJ7
import Derived.Test.YtncampbmnbhikaaJ10
import Derived.Test.YtncampbmnbhikaaRecD
import Derived.Deep.DeepCutAuto
-- Wrd
namespace Go.Proofs.Ytncampbmnbhikaa
set_option linter.unusedVariables false
set_option linter.unusedSimpArgs false
open Go.RowKit

section
attribute [local go_sem low] loadV_ptr
attribute [local go_sem] storeV_ptr
attribute [local go_sem ↓] load_WU store_WU
set_option maxRecDepth 8000 in
set_option maxHeartbeats 4000000 in
theorem rowsU_any (v : Value) (h0 : Nat) (d : Nat → Int) (A : Option Addr) (n c : Nat) (F : Nat → Nat → Int) (base : Nat) (w : World) (hF : ∀ i, okU (F i)) (hn : n ≤ 5000) (hh : h0 ≤ 1000) (ho : OwnB w base v h0 d) (hbase : base ≤ w.heap.size) (hs : ∀ W, Below base w W → SsIs W A n 2 (fun i => clU (F i))) :
    Calls Try.prog 44 #[v, .slice A n c, .func (.func 45) #[] #[]] w fun r w' => ∃ v', r = .returned v' ∧ OwnB w' base v' (h0 + n * 16) (cat d h0 (rowsF 16 fun i => byU (F i))) ∧ Below base w w' := by
  have HP := Lib.hid putU_ok
  have HF := fun (m N : Nat) (hN : N = h0 + m * 16) => rows_next d h0 (fun i => byU (F i)) hN
  have ho0 : OwnB w base v h0 (cat d h0 (rowsF 16 fun i => byU (F i))) := ho.cast rfl (fun i hi => (cat_lo hi).symm)
  generalize cat d h0 (rowsF 16 fun i => byU (F i)) = D at *
  replace HF := Lib.hid HF
  replace hs := Lib.hid hs
  replace hF := Lib.hid hF
  replace ho0 := Lib.hid ho0
  clear ho
  go_enter Try.func44, Try.ntmps44
  go_wp2_with fail
  go_loopw [11, 0] (fun i s wr => ∃ m N : Nat, m ≤ n ∧ i = .int .i64 m ∧ Hid (N = h0 + m * 16) ∧ Hid (OwnB wr base s N D) ∧ Hid (Below base w wr)) (fun i _ _ => n - (intOf i).toNat)
  case atStart => exact ⟨0, h0, by omega, rfl, by unfold Hid; omega, ho0.out, Below.refl _ _⟩
  case round =>
    obtain ⟨m, N, hm, rfl, hmk, ho, hb⟩ := hrel
    have hsz := hb.out.size
    by_cases hlt : m < n
    · obtain ⟨b, o, rfl, hbl, hc⟩ := hs.out _ hb.out (by omega)
      have hL := mid_U (hc m hlt)
      clear hc
      have hf := Lib.hid (hF.out m)
      have HS := Lib.hid (HF.out m N hmk.out)
      have hbs := Nat.le_trans hbase hsz
      go_wp2_with fail
      refine (HP.out _ hf.out _).mono ?_
      rintro e2 w2 ⟨v2, rfl, ho2, hb2⟩
      obtain ⟨A2, c2, rfl, s2⟩ := ho2.slis
      have ho3 := Lib.hid (OwnB.kept (OwnB.kept ho.out (bel_alloc (Below.refl _ _) _)) hb2)
      have hb3 := Lib.hid ((belb_alloc hb.out hbs _).trans (hb2.mono (Nat.le_trans hbs (bel_alloc (Below.refl _ _) _).size)))
      have hsz2 := hb3.out.size
      replace s2 := Lib.hid s2
      clear ho2 hb2
      go_wp2_with (at_builtin; refine wpList_appB rfl (.tmp 15) (.tmp 18) rfl rfl rfl ho3.out s2.out (by have := hmk.out; omega) (by omega) ?_; intro v5 w5 ho5 hb5)
      go_roundw
      case rel => exact ⟨m + 1, N + 16, by omega, by go_num, (show N + 16 = h0 + (m + 1) * 16 by have := hmk.out; omega), ho5.cast rfl HS.out, hb3.out.trans hb5⟩
      case measure => simp [intOf]; omega
    · obtain rfl : m = n := by omega
      go_wp2_with fail
      go_ret
      exact ⟨_, rfl, by rw [← hmk.out]; exact ho.out, hb.out⟩
end
end Go.Proofs.Ytncampbmnbhikaa
-- Wri
namespace Go.Proofs.Ytncampbmnbhikaa
set_option linter.unusedVariables false
set_option linter.unusedSimpArgs false
open Go.RowKit

theorem own_two {w : World} {a b : Int} {D : Nat → Int} (h0 : D 0 = a) (h1 : D 1 = b) : OwnB (w.alloc (.cells #[.int .u8 a, .int .u8 b] 5)) w.heap.size (.slice (some ⟨w.heap.size, 0, none⟩) 2 2) 2 D := by
  refine row_own (f := yV D) (rowIs_of rfl rfl (fun i hi => ?_)) (fun i hi => rfl) (Nat.le_refl _) (Nat.le_refl _) (by simp [maxLen])
  rcases (by omega : i = 0 ∨ i = 1) with rfl | rfl
  · rw [← h0]; rfl
  · rw [← h1]; rfl
theorem own_one {w : World} {a : Int} {D : Nat → Int} (h0 : D 0 = a) : OwnB (w.alloc (.cells #[.int .u8 a] 5)) w.heap.size (.slice (some ⟨w.heap.size, 0, none⟩) 1 1) 1 D := by
  refine row_own (f := yV D) (rowIs_of rfl rfl (fun i hi => ?_)) (fun i hi => rfl) (Nat.le_refl _) (Nat.le_refl _) (by simp [maxLen])
  obtain rfl : i = 0 := by omega
  rw [← h0]; rfl
theorem own_oneE {W : World} {a : Int} {base g : Nat} {D : Nat → Int} (hb : base ≤ W.heap.size) (hg : g = W.heap.size) (h0 : D 0 = a) : OwnB (W.alloc (.cells #[.int .u8 a] 5)) base (.slice (some ⟨g, 0, none⟩) 1 1) 1 D := by
  subst hg
  exact (own_one h0).base hb
/-- the two bytes ahead of a reply's rows -/
def hd2 (k : Int) : Nat → Int := fun i => if i = 0 then 0 else k
theorem own_hd2 {w W : World} {k : Int} {base g : Nat} (hb : base ≤ W.heap.size) (hg : g = W.heap.size) : OwnB (W.alloc (.cells #[.int .u8 0, .int .u8 k] 5)) base (.slice (some ⟨g, 0, none⟩) 2 2) 2 (hd2 k) := by
  subst hg
  exact (own_two rfl rfl).base hb
set_option maxRecDepth 8000 in
set_option maxHeartbeats 4000000 in
theorem putReply_k1 (RA AA TA BA : Option Addr) (rn rc an ac tn tc bn bc : Nat) (F : Nat → Nat → Int) (ct : Int) (w : World) (hF : ∀ i, okR (F i)) (hn : rn ≤ 5000) (hs : SsIs w RA rn 2 (fun i => clR (F i))) :
    Calls Try.prog 9 #[.agg #[.int .i64 0, .int .i64 1, .slice RA rn rc, .slice AA an ac, .slice TA tn tc, .slice BA bn bc, .int .u32 ct]] w fun r w' => ∃ v', r = .returned v' ∧ OwnB w' w.heap.size v' (2 + rn * 8) (cat (hd2 1) 2 (rowsF 8 fun i => byR (F i))) ∧ Below w.heap.size w w' := by
  have HR := Lib.hid (fun (v : Value) (W : World) (hb : Below w.heap.size w W) (ho : OwnB W w.heap.size v 2 (hd2 1)) => rowsR_any v 2 (hd2 1) RA rn rc F w.heap.size W hF hn (by omega) ho hb.size (fun X hX => hs.below (hb.trans hX)))
  go_enter Try.func9, Try.ntmps9
  go_wp2_with fail
  refine (HR.out _ _ (bel_alloc (bel_alloc (Below.refl _ _) _) _) (own_hd2 (w := w) (by simp) (by simp))).mono ?_
  rintro e2 w2 ⟨v2, rfl, ho2, hb2⟩
  go_wp2_with fail
  go_ret
  exact ⟨_, rfl, ho2, (bel_alloc (bel_alloc (Below.refl _ _) _) _).trans hb2⟩
set_option maxRecDepth 8000 in
set_option maxHeartbeats 4000000 in
theorem putReply_k2 (RA AA TA BA : Option Addr) (rn rc an ac tn tc bn bc : Nat) (F : Nat → Nat → Int) (ct : Int) (w : World) (hF : ∀ i, okR (F i)) (hn : rn ≤ 5000) (hs : SsIs w RA rn 2 (fun i => clR (F i))) :
    Calls Try.prog 9 #[.agg #[.int .i64 0, .int .i64 2, .slice RA rn rc, .slice AA an ac, .slice TA tn tc, .slice BA bn bc, .int .u32 ct]] w fun r w' => ∃ v', r = .returned v' ∧ OwnB w' w.heap.size v' (2 + rn * 8) (cat (hd2 2) 2 (rowsF 8 fun i => byR (F i))) ∧ Below w.heap.size w w' := by
  have HR := Lib.hid (fun (v : Value) (W : World) (hb : Below w.heap.size w W) (ho : OwnB W w.heap.size v 2 (hd2 2)) => rowsR_any v 2 (hd2 2) RA rn rc F w.heap.size W hF hn (by omega) ho hb.size (fun X hX => hs.below (hb.trans hX)))
  go_enter Try.func9, Try.ntmps9
  go_wp2_with fail
  refine (HR.out _ _ (bel_alloc (bel_alloc (Below.refl _ _) _) _) (own_hd2 (w := w) (by simp) (by simp))).mono ?_
  rintro e2 w2 ⟨v2, rfl, ho2, hb2⟩
  go_wp2_with fail
  go_ret
  exact ⟨_, rfl, ho2, (bel_alloc (bel_alloc (Below.refl _ _) _) _).trans hb2⟩
set_option maxRecDepth 8000 in
set_option maxHeartbeats 4000000 in
theorem putReply_k3 (RA AA TA BA : Option Addr) (rn rc an ac tn tc bn bc : Nat) (F : Nat → Nat → Int) (ct : Int) (w : World) (hF : ∀ i, okA (F i)) (hn : an ≤ 5000) (hs : SsIs w AA an 15 (fun i => clA (F i))) :
    Calls Try.prog 9 #[.agg #[.int .i64 0, .int .i64 3, .slice RA rn rc, .slice AA an ac, .slice TA tn tc, .slice BA bn bc, .int .u32 ct]] w fun r w' => ∃ v', r = .returned v' ∧ OwnB w' w.heap.size v' (2 + an * 104) (cat (hd2 3) 2 (rowsF 104 fun i => byA (F i))) ∧ Below w.heap.size w w' := by
  have HR := Lib.hid (fun (v : Value) (W : World) (hb : Below w.heap.size w W) (ho : OwnB W w.heap.size v 2 (hd2 3)) => rowsA_any v 2 (hd2 3) AA an ac F w.heap.size W hF hn (by omega) ho hb.size (fun X hX => hs.below (hb.trans hX)))
  go_enter Try.func9, Try.ntmps9
  go_wp2_with fail
  refine (HR.out _ _ (bel_alloc (bel_alloc (Below.refl _ _) _) _) (own_hd2 (w := w) (by simp) (by simp))).mono ?_
  rintro e2 w2 ⟨v2, rfl, ho2, hb2⟩
  go_wp2_with fail
  go_ret
  exact ⟨_, rfl, ho2, (bel_alloc (bel_alloc (Below.refl _ _) _) _).trans hb2⟩
set_option maxRecDepth 8000 in
set_option maxHeartbeats 4000000 in
theorem putReply_k4 (RA AA TA BA : Option Addr) (rn rc an ac tn tc bn bc : Nat) (F : Nat → Nat → Int) (ct : Int) (w : World) (hF : ∀ i, okT (F i)) (hn : tn ≤ 5000) (hs : SsIs w TA tn 16 (fun i => clT (F i))) :
    Calls Try.prog 9 #[.agg #[.int .i64 0, .int .i64 4, .slice RA rn rc, .slice AA an ac, .slice TA tn tc, .slice BA bn bc, .int .u32 ct]] w fun r w' => ∃ v', r = .returned v' ∧ OwnB w' w.heap.size v' (2 + tn * 108) (cat (hd2 4) 2 (rowsF 108 fun i => byT (F i))) ∧ Below w.heap.size w w' := by
  have HR := Lib.hid (fun (v : Value) (W : World) (hb : Below w.heap.size w W) (ho : OwnB W w.heap.size v 2 (hd2 4)) => rowsT_any v 2 (hd2 4) TA tn tc F w.heap.size W hF hn (by omega) ho hb.size (fun X hX => hs.below (hb.trans hX)))
  go_enter Try.func9, Try.ntmps9
  go_wp2_with fail
  refine (HR.out _ _ (bel_alloc (bel_alloc (Below.refl _ _) _) _) (own_hd2 (w := w) (by simp) (by simp))).mono ?_
  rintro e2 w2 ⟨v2, rfl, ho2, hb2⟩
  go_wp2_with fail
  go_ret
  exact ⟨_, rfl, ho2, (bel_alloc (bel_alloc (Below.refl _ _) _) _).trans hb2⟩
set_option maxRecDepth 8000 in
set_option maxHeartbeats 4000000 in
theorem putReply_k5 (RA AA TA BA : Option Addr) (rn rc an ac tn tc bn bc : Nat) (F : Nat → Nat → Int) (ct : Int) (w : World) (hF : ∀ i, okT (F i)) (hn : tn ≤ 5000) (hs : SsIs w TA tn 16 (fun i => clT (F i))) :
    Calls Try.prog 9 #[.agg #[.int .i64 0, .int .i64 5, .slice RA rn rc, .slice AA an ac, .slice TA tn tc, .slice BA bn bc, .int .u32 ct]] w fun r w' => ∃ v', r = .returned v' ∧ OwnB w' w.heap.size v' (2 + tn * 108) (cat (hd2 5) 2 (rowsF 108 fun i => byT (F i))) ∧ Below w.heap.size w w' := by
  have HR := Lib.hid (fun (v : Value) (W : World) (hb : Below w.heap.size w W) (ho : OwnB W w.heap.size v 2 (hd2 5)) => rowsT_any v 2 (hd2 5) TA tn tc F w.heap.size W hF hn (by omega) ho hb.size (fun X hX => hs.below (hb.trans hX)))
  go_enter Try.func9, Try.ntmps9
  go_wp2_with fail
  refine (HR.out _ _ (bel_alloc (bel_alloc (Below.refl _ _) _) _) (own_hd2 (w := w) (by simp) (by simp))).mono ?_
  rintro e2 w2 ⟨v2, rfl, ho2, hb2⟩
  go_wp2_with fail
  go_ret
  exact ⟨_, rfl, ho2, (bel_alloc (bel_alloc (Below.refl _ _) _) _).trans hb2⟩
set_option maxRecDepth 8000 in
set_option maxHeartbeats 4000000 in
theorem putReply_k6 (RA AA TA BA : Option Addr) (rn rc an ac tn tc bn bc : Nat) (F : Nat → Nat → Int) (ct : Int) (w : World) (hF : ∀ i, okB (F i)) (hn : bn ≤ 5000) (hs : SsIs w BA bn 9 (fun i => clB (F i))) :
    Calls Try.prog 9 #[.agg #[.int .i64 0, .int .i64 6, .slice RA rn rc, .slice AA an ac, .slice TA tn tc, .slice BA bn bc, .int .u32 ct]] w fun r w' => ∃ v', r = .returned v' ∧ OwnB w' w.heap.size v' (2 + bn * 72) (cat (hd2 6) 2 (rowsF 72 fun i => byB (F i))) ∧ Below w.heap.size w w' := by
  have HR := Lib.hid (fun (v : Value) (W : World) (hb : Below w.heap.size w W) (ho : OwnB W w.heap.size v 2 (hd2 6)) => rowsB_any v 2 (hd2 6) BA bn bc F w.heap.size W hF hn (by omega) ho hb.size (fun X hX => hs.below (hb.trans hX)))
  go_enter Try.func9, Try.ntmps9
  go_wp2_with fail
  refine (HR.out _ _ (bel_alloc (bel_alloc (Below.refl _ _) _) _) (own_hd2 (w := w) (by simp) (by simp))).mono ?_
  rintro e2 w2 ⟨v2, rfl, ho2, hb2⟩
  go_wp2_with fail
  go_ret
  exact ⟨_, rfl, ho2, (bel_alloc (bel_alloc (Below.refl _ _) _) _).trans hb2⟩
theorem nb4_0 (x : Int) (h : 0 ≤ x ∧ x < 4294967296) : nb 4 x 0 = x / 16777216 := by unfold nb; simp; omega
theorem nb4_1 (x : Int) : nb 4 x 1 = x / 65536 % 256 := by unfold nb; simp
theorem nb4_2 (x : Int) : nb 4 x 2 = x / 256 % 256 := by unfold nb; simp
theorem nb4_3 (x : Int) : nb 4 x 3 = x % 256 := by unfold nb; simp
theorem slis_four {w : World} {g : Nat} {D : Nat → Int} {a b c d : Int} (hn : g = w.heap.size) (h0 : D 0 = a) (h1 : D 1 = b) (h2 : D 2 = c) (h3 : D 3 = d) : SlIs (w.alloc (.cells #[.int .u8 a, .int .u8 b, .int .u8 c, .int .u8 d] 5)) (some ⟨g, 0, none⟩) 4 (yV D) := fun _ =>
  ⟨g, 0, rfl, (by subst hn; simp), fun j hj => by
    subst hn
    rw [Nat.zero_add, (Blk.new w 5 #[.int .u8 a, .int .u8 b, .int .u8 c, .int .u8 d]).cell j]
    rcases (by omega : j = 0 ∨ j = 1 ∨ j = 2 ∨ j = 3) with rfl | rfl | rfl | rfl
    · rw [← h0]; rfl
    · rw [← h1]; rfl
    · rw [← h2]; rfl
    · rw [← h3]; rfl⟩
set_option maxRecDepth 8000 in
set_option maxHeartbeats 4000000 in
theorem putReply_k7 (RA AA TA BA : Option Addr) (rn rc an ac tn tc bn bc : Nat) (ct : Int) (w : World) (hc : 0 ≤ ct ∧ ct < 4294967296) :
    Calls Try.prog 9 #[.agg #[.int .i64 0, .int .i64 7, .slice RA rn rc, .slice AA an ac, .slice TA tn tc, .slice BA bn bc, .int .u32 ct]] w fun r w' => ∃ v', r = .returned v' ∧ OwnB w' w.heap.size v' 6 (cat (hd2 7) 2 (nb 4 ct)) ∧ Below w.heap.size w w' := by
  have HN0 := Lib.hid (nb4_0 ct hc)
  have HN1 := Lib.hid (nb4_1 ct)
  have HN2 := Lib.hid (nb4_2 ct)
  have HN3 := Lib.hid (nb4_3 ct)
  generalize nb 4 ct = Q at *
  obtain ⟨hz0, hz1⟩ := hc
  go_enter Try.func9, Try.ntmps9
  go_wp2_with (at_builtin; go_loud (refine wpList_appB rfl (.tmp 53) (.tmp 69) rfl rfl rfl (OwnB.kept (own_hd2 (w := w) (base := w.heap.size) (by simp) (by simp)) (bel_alloc (Below.refl _ _) _)) (slis_four (D := Q) (by simp) HN0.out HN1.out HN2.out HN3.out) (by omega) (by simp; omega) ?_; intro v2 w2 ho2 hb2))
  go_ret
  exact ⟨_, rfl, ho2, (bel_alloc (bel_alloc (bel_alloc (Below.refl _ _) _) _) _).trans hb2⟩
theorem putReply_bad (RA AA TA BA : Option Addr) (rn rc an ac tn tc bn bc : Nat) (st kd ct : Int) (w : World) (h : st < 0 ∨ 4 < st) :
    Calls Try.prog 9 #[.agg #[.int .i64 st, .int .i64 kd, .slice RA rn rc, .slice AA an ac, .slice TA tn tc, .slice BA bn bc, .int .u32 ct]] w fun r w' => r = .returned (.slice none 0 0) ∧ Below w.heap.size w w' := by
  by_cases h0 : st < 0
  · have d0 : decide (st < 0) = true := decide_eq_true h0
    go_enter Try.func9, Try.ntmps9
    go_wp2_with fail
    go_ret
    exact ⟨rfl, by (repeat (first | exact Below.refl _ _ | assumption | refine below_drewN ?_ _ | refine bel_grow ?_ _ | refine Below.drew ?_ | refine bel_alloc ?_ _ | refine bel_set ?_ (by first | exact Nat.le_refl _ | (simp; done) | (simp; omega) | omega) _ | refine bel_trans ?_ (by assumption)))⟩
  · have d0 : decide (st < 0) = false := decide_eq_false h0
    have d1 : decide (st > 4) = true := decide_eq_true (by omega)
    go_enter Try.func9, Try.ntmps9
    go_wp2_with fail
    go_ret
    exact ⟨rfl, by (repeat (first | exact Below.refl _ _ | assumption | refine below_drewN ?_ _ | refine bel_grow ?_ _ | refine Below.drew ?_ | refine bel_alloc ?_ _ | refine bel_set ?_ (by first | exact Nat.le_refl _ | (simp; done) | (simp; omega) | omega) _ | refine bel_trans ?_ (by assumption)))⟩
theorem putReply_st (RA AA TA BA : Option Addr) (rn rc an ac tn tc bn bc : Nat) (st kd ct : Int) (w : World) (h : 1 ≤ st ∧ st ≤ 4) :
    Calls Try.prog 9 #[.agg #[.int .i64 st, .int .i64 kd, .slice RA rn rc, .slice AA an ac, .slice TA tn tc, .slice BA bn bc, .int .u32 ct]] w fun r w' => ∃ v', r = .returned v' ∧ OwnB w' w.heap.size v' 1 (fun _ => st) ∧ Below w.heap.size w w' := by
  rcases (by omega : st = 1 ∨ st = 2 ∨ st = 3 ∨ st = 4) with rfl | rfl | rfl | rfl <;>
  · go_enter Try.func9, Try.ntmps9
    go_wp2_with fail
    go_ret
    exact ⟨_, rfl, own_oneE (by simp) (by simp) rfl, by (repeat (first | exact Below.refl _ _ | assumption | refine below_drewN ?_ _ | refine bel_grow ?_ _ | refine Below.drew ?_ | refine bel_alloc ?_ _ | refine bel_set ?_ (by first | exact Nat.le_refl _ | (simp; done) | (simp; omega) | omega) _ | refine bel_trans ?_ (by assumption)))⟩
theorem putReply_kd (RA AA TA BA : Option Addr) (rn rc an ac tn tc bn bc : Nat) (kd ct : Int) (w : World) (h : kd < 1 ∨ 7 < kd) :
    Calls Try.prog 9 #[.agg #[.int .i64 0, .int .i64 kd, .slice RA rn rc, .slice AA an ac, .slice TA tn tc, .slice BA bn bc, .int .u32 ct]] w fun r w' => r = .returned (.slice none 0 0) ∧ Below w.heap.size w w' := by
  have e1 : (kd == 1) = false := beq_eq_false_iff_ne.2 (by omega)
  have e2 : (kd == 2) = false := beq_eq_false_iff_ne.2 (by omega)
  have e3 : (kd == 3) = false := beq_eq_false_iff_ne.2 (by omega)
  have e4 : (kd == 4) = false := beq_eq_false_iff_ne.2 (by omega)
  have e5 : (kd == 5) = false := beq_eq_false_iff_ne.2 (by omega)
  have e6 : (kd == 6) = false := beq_eq_false_iff_ne.2 (by omega)
  have e7 : (kd == 7) = false := beq_eq_false_iff_ne.2 (by omega)
  go_enter Try.func9, Try.ntmps9
  go_wp2_with fail
  go_ret
  exact ⟨rfl, by (repeat (first | exact Below.refl _ _ | assumption | refine below_drewN ?_ _ | refine bel_grow ?_ _ | refine Below.drew ?_ | refine bel_alloc ?_ _ | refine bel_set ?_ (by first | exact Nat.le_refl _ | (simp; done) | (simp; omega) | omega) _ | refine bel_trans ?_ (by assumption)))⟩
end Go.Proofs.Ytncampbmnbhikaa
-- RecE
namespace Go.Proofs.Ytncampbmnbhikaa
set_option linter.unusedVariables false
set_option linter.unusedSimpArgs false
open Go.RowKit

/-- the example's bytes -/
def exD (j : Nat) : Int := if j = 39 then 3 else if j = 35 then 2 else if j = 15 then 1 else 0
theorem exD_eq : ∀ i, i < 40 → putFilterD 0 1 0 0 2 3 i = exD i := by decide +kernel
end Go.Proofs.Ytncampbmnbhikaa
