/-
  Joined: OffC KeepD Acc.
-/
import Derived.Test.YtflaeljjalpnkaaJ5
import Derived.Test.YtflaeljjalpnkaaRecB
import Derived.Test.YtflaeljjalpnkaaRecR
import Derived.Deep.DeepCutAuto
import Derived.Test.YtflaeljjalpnkaaRows2
-- OffC
namespace Go.Proofs.Ytflaeljjalpnkaa
set_option linter.unusedVariables false
set_option linter.unusedSimpArgs false
open Go.RowKit

set_option maxRecDepth 8000 in
set_option maxHeartbeats 2000000 in
theorem wides_off (w : World) (base g cap gb : Nat) (D : Nat → Int) (h l : Int) (hh : Wd h) (hl : Wd l) (hb0 : base ≤ w.heap.size) (hcap : 92 ≤ cap) (hcm : 16 + cap ≤ maxLen)
    (ho : OwnB w base (.slice (some ⟨g, 0, none⟩) 108 (16 + cap)) 108 D) (hg : Blk w gb 24 #[.int .u64 h, .int .u64 l]) :
    Calls Try.prog 51 #[.slice (some ⟨g, 16, none⟩) 92 cap, .slice (some ⟨gb, 0, none⟩) 1 1] w fun r w' => ∃ A c', r = .returned (.slice A 108 c') ∧ 108 ≤ c' ∧ c' ≤ maxLen ∧ SlIs w' A 108 (yV (cat (shf D 16) 92 (dgt h l))) ∧ SlIs w' (some ⟨g, 0, none⟩) 16 (yV D) ∧ Below base w w' := by
  have HX := Lib.hid (fun w => bytes_any h l hh hl w)
  have x0 := (hg).cell 0
  have x1 := (hg).cell 1
  have xf0 := (hg).frozen 0
  have xf1 := (hg).frozen 1
  have xl := (hg).lt
  replace ho := Lib.hid ho
  clear hg
  go_enter Try.func51, Try.ntmps51
  go_wp2_with fail
  refine wp_loop_rounds 2 ?_
  rw [rounds_succ]
  go_wp2_with fail
  refine (HX.out _).mono ?_
  rintro e1 w1 ⟨gy, rfl, hgy, hrow, hb1⟩
  have hW : Below w.heap.size w w1 := bel_eld (w := w) (X := _) (by (repeat (first | with_reducible exact Below.refl _ _ | with_reducible assumption | (with_reducible refine bel_set ?_ (by first | exact Nat.le_refl _ | (simp; done) | (simp; omega) | omega) _) | with_reducible refine bel_grow ?_ _ | with_reducible refine Below.drew ?_ | with_reducible refine below_drewN ?_ _ | with_reducible refine bel_alloc ?_ _ | with_reducible refine bel_trans ?_ (by assumption)))) hb1
  obtain ⟨A, c', w2, hrun, j1, j2, s2, s3, hb2⟩ := run_wide_off w1 base g cap 16 ⟨gy, 0, none⟩ D (dgt h l) 32 (Nat.le_trans hb0 hW.size) hcap hcm (ho.out.kept hW) (news_row hrow (Nat.le_refl 16))
  replace s2 := Lib.hid s2
  replace s3 := Lib.hid s3
  have hb3 := Lib.hid ((hW.mono hb0).trans hb2)
  clear hrow hb1 hW hb2 ho x0 x1 xf0 xf1 hgy
  go_wp2_with (at_builtin; refine Lib.wpList_append_run _ rfl _ _ _ _ rfl _ _ rfl rfl _ _ hrun ?_)
  rw [rounds_succ]
  go_wp2_with fail
  go_ret
  exact ⟨A, c', rfl, j1, j2, s2.out, s3.out, hb3.out⟩
end Go.Proofs.Ytflaeljjalpnkaa
-- KeepD
namespace Go.Proofs.Ytflaeljjalpnkaa
set_option linter.unusedVariables false
set_option linter.unusedSimpArgs false
open Go.RowKit

set_option maxRecDepth 8000 in
set_option maxHeartbeats 4000000 in
theorem keepTransfer_any (xi1 xi2 xd1 xd2 xc1 xc2 xm1 xm2 xw1 xw2 xtg xto xlg xcd xfl xst kh kl : Int) (hi1 : 0 ≤ xi1 ∧ xi1 < 18446744073709551616) (hi2 : 0 ≤ xi2 ∧ xi2 < 18446744073709551616) (hd1 : 0 ≤ xd1 ∧ xd1 < 18446744073709551616) (hd2 : 0 ≤ xd2 ∧ xd2 < 18446744073709551616) (hc1 : 0 ≤ xc1 ∧ xc1 < 18446744073709551616) (hc2 : 0 ≤ xc2 ∧ xc2 < 18446744073709551616) (hm1 : 0 ≤ xm1 ∧ xm1 < 18446744073709551616) (hm2 : 0 ≤ xm2 ∧ xm2 < 18446744073709551616) (hw1 : 0 ≤ xw1 ∧ xw1 < 18446744073709551616) (hw2 : 0 ≤ xw2 ∧ xw2 < 18446744073709551616) (htg : 0 ≤ xtg ∧ xtg < 18446744073709551616) (hto : 0 ≤ xto ∧ xto < 4294967296) (hlg : 0 ≤ xlg ∧ xlg < 4294967296) (hcd : 0 ≤ xcd ∧ xcd < 65536) (hfl : 0 ≤ xfl ∧ xfl < 65536) (hst : 0 ≤ xst ∧ xst < 18446744073709551616) (hkh : Wd kh) (hkl : Wd kl) (w : World) : Calls Try.prog 33 #[.agg #[.int .u64 xi1, .int .u64 xi2, .int .u64 xd1, .int .u64 xd2, .int .u64 xc1, .int .u64 xc2, .int .u64 xm1, .int .u64 xm2, .int .u64 xw1, .int .u64 xw2, .int .u64 xtg, .int .u32 xto, .int .u32 xlg, .int .u16 xcd, .int .u16 xfl, .int .u64 xst, .int .u64 kh, .int .u64 kl]] w fun r w' => ∃ A c B k, r = .returned (.tuple #[.slice A 16 c, .slice B 108 k]) ∧ (16 ≤ c ∧ c ≤ maxLen) ∧ (108 ≤ k ∧ k ≤ maxLen) ∧ SlIs w' A 16 (yV (putTransferD xi1 xi2 xd1 xd2 xc1 xc2 xm1 xm2 xw1 xw2 xtg xto xlg xcd xfl xst)) ∧ SlIs w' B 108 (yV (cat (shf (putTransferD xi1 xi2 xd1 xd2 xc1 xc2 xm1 xm2 xw1 xw2 xtg xto xlg xcd xfl xst) 16) 92 (dgt kh kl))) ∧ Below w.heap.size w w' := by
  have HP := Lib.hid (fun w => putTransfer_any xi1 xi2 xd1 xd2 xc1 xc2 xm1 xm2 xw1 xw2 xtg xto xlg xcd xfl xst hi1 hi2 hd1 hd2 hc1 hc2 hm1 hm2 hw1 hw2 htg hto hlg hcd hfl hst w)
  clear hi1 hi2 hd1 hd2 hc1 hc2 hm1 hm2 hw1 hw2 htg hto hlg hcd hfl hst
  generalize (putTransferD xi1 xi2 xd1 xd2 xc1 xc2 xm1 xm2 xw1 xw2 xtg xto xlg xcd xfl xst) = D at *
  have HW := Lib.hid (fun w base g cap gb hb0 hcap hcm ho hg => wides_off w base g cap gb D kh kl hkh hkl hb0 hcap hcm ho hg)
  clear hkh hkl
  go_enter Try.func33, Try.ntmps33
  go_wp2_with fail
  refine (HP.out _).mono ?_
  rintro e w1 ⟨v, rfl, ho, hb1⟩
  have hW : Below w.heap.size w w1 := bel_eld (w := w) (X := _) (by (repeat (first | with_reducible exact Below.refl _ _ | with_reducible assumption | (with_reducible refine bel_set ?_ (by first | exact Nat.le_refl _ | (simp; done) | (simp; omega) | omega) _) | with_reducible refine bel_grow ?_ _ | with_reducible refine Below.drew ?_ | with_reducible refine below_drewN ?_ _ | with_reducible refine bel_alloc ?_ _ | with_reducible refine bel_trans ?_ (by assumption)))) hb1
  have f_a : Blk w1 w.heap.size 78 #[.int .u64 xi1, .int .u64 xi2, .int .u64 xd1, .int .u64 xd2, .int .u64 xc1, .int .u64 xc2, .int .u64 xm1, .int .u64 xm2, .int .u64 xw1, .int .u64 xw2, .int .u64 xtg, .int .u32 xto, .int .u32 xlg, .int .u16 xcd, .int .u16 xfl, .int .u64 xst, .int .u64 kh, .int .u64 kl] := Blk.kept (by (repeat (first | with_reducible assumption | (with_reducible refine Blk.new' ?_; first | with_reducible rfl | (simp; done)) | with_reducible refine Blk.alloc ?_ _ | with_reducible refine Blk.grow ?_ _ | with_reducible refine Blk.drew ?_ | with_reducible refine Blk.drewN ?_ _ | (with_reducible refine Blk.far ?_ (by first | (dsimp only; omega) | (simp; omega)) _) | (with_reducible apply Blk.two) | (with_reducible refine Blk.set' ?_ _ _ ?_) | (with_reducible rfl) | rfl))) hb1
  have ho2 := ho
  obtain ⟨z0, ⟨_, h0⟩ | ⟨g, c, cur, rfl, hbg, z1, e1, m1, z2, z3⟩⟩ := ho2
  · omega
  have ho3 : OwnB w1 w.heap.size (.slice (some ⟨g, 0, none⟩) 108 (16 + (c - 16))) 108 D := by rw [show 16 + (c - 16) = c by omega]; exact ho.base (by simp)
  have s1 : w.heap.size ≤ w1.heap.size := hW.size
  have hbz := Below.drew (bel_alloc (Below.refl w1.heap.size w1) (.cells #[.int .u64 kh, .int .u64 kl] 24))
  have HV := Lib.hid (HW.out (w1.alloc (.cells #[.int .u64 kh, .int .u64 kl] 24)).drew w.heap.size g (c - 16) w1.heap.size (Nat.le_trans s1 hbz.size) (by omega) (by rw [show 16 + (c - 16) = c by omega]; exact m1) (ho3.kept hbz) (Blk.new _ _ _).drew)
  have a16 := f_a.cell 16
  have a17 := f_a.cell 17
  have af16 := f_a.frozen 16
  have af17 := f_a.frozen 17
  have al := f_a.lt
  have m2 : c ≤ 9223372036854775807 := m1
  replace hW := Lib.hid hW
  replace hbz := Lib.hid hbz
  clear ho ho3 hb1 f_a hbg HW HP z0 z1 z2 z3
  go_upto_region 2 with fail
  go_region_with (go_at_call 51; (with_reducible refine HV.out.mono ?_); rintro e2 w2 ⟨B, c2, rfl, j1, j2, s2, s3, hb2⟩; replace s2 := Lib.hid s2; replace s3 := Lib.hid s3; replace hb2 := Lib.hid hb2)
  all_goals (
    go_wp2_with fail
    go_ret2
    refine ⟨_, _, _, _, rfl, ⟨by omega, by simp [maxLen]⟩, ⟨j1, j2⟩, s3.out, s2.out, ?_⟩
    exact ((hW.out).trans (hbz.out.mono s1)).trans hb2.out)
end Go.Proofs.Ytflaeljjalpnkaa
-- Acc
namespace Go.Proofs.Ytflaeljjalpnkaa
set_option linter.unusedVariables false
set_option linter.unusedSimpArgs false
open Go.RowKit

theorem load_Account (ρ : Operand → Value) (dst : Option Tmp) (x : Operand) (t : TypeId) (pos : String) (after : Array Edge) (guard : Option (Nat × Bool)) (w : World) :
    (execOp ρ { dst, op := Op.load 56 x, type := t, pos, after, guard }).run Try.prog w = (loadV Try.prog 56 15 w (ρ x)).andThen fun v w' => .ok (.value v) w' :=
  exec_load_row Try.underlying56 rfl (by kernel_rfl) ρ dst x t pos after guard w
theorem store_Account (ρ : Operand → Value) (dst : Option Tmp) (p x : Operand) (t : TypeId) (pos : String) (after : Array Edge) (guard : Option (Nat × Bool)) (w : World) :
    (execOp ρ { dst, op := Op.store 56 p x, type := t, pos, after, guard }).run Try.prog w = (storeV Try.prog 56 15 w (ρ p) (ρ x)).andThen fun _ w' => .ok .skip w' :=
  exec_store_row (by kernel_rfl) ρ dst p x t pos after guard w
attribute [go_sem] loadV_ptr storeV_ptr
attribute [go_sem ↓] load_Account store_Account
end Go.Proofs.Ytflaeljjalpnkaa
