/-
  Joined: OffA OffB KeepE.
-/
import Derived.Test.YtflaeljjalpnkaaCatA
import Derived.OwnWalk
import Derived.Test.YtflaeljjalpnkaaKeyB
import Derived.ArgAppend
import Derived.Test.YtflaeljjalpnkaaCatB
import Derived.Test.YtflaeljjalpnkaaKeyC
import Derived.Test.YtflaeljjalpnkaaKeepC
import Derived.Test.YtflaeljjalpnkaaRowC
-- OffA
namespace Go.Proofs.Ytflaeljjalpnkaa
set_option linter.unusedVariables false
set_option linter.unusedSimpArgs false
open Go.RowKit

theorem run_append_off {P : Program} (w w' : World) (t ty e : TypeId) (i : TypeInfo) (h1 : P.underlying t = some (.slice e)) (h2 : P.info? e = some i) (h4 : i.size = 1) (g k0 n cap m c : Nat) (ad : Addr) (v' : Value) (hle : n + m ≤ cap)
    (h : (Builtin.append_ #[t, t] ty #[.slice (some ⟨g, 0, none⟩) (k0 + n) (k0 + cap), .slice (some ad) m c]).run P w = .ok v' w') :
    (Builtin.append_ #[t, t] ty #[.slice (some ⟨g, k0, none⟩) n cap, .slice (some ad) m c]).run P w = .ok (.slice (some ⟨g, k0, none⟩) (n + m) cap) w' := by
  have hle' : k0 + n + m ≤ k0 + cap := by omega
  have ea : (⟨g, 0, none⟩ : Addr).add (k0 + n) = ⟨g, k0 + n, none⟩ := by unfold Addr.add; split <;> simp_all
  have eb : (⟨g, k0, none⟩ : Addr).add n = ⟨g, k0 + n, none⟩ := by unfold Addr.add; split <;> simp_all
  simp [Builtin.append_, run_underlying h1, sizeOf, typeInfo, h2, h4, Builtin.lenOf, hle, hle', ea, eb] at h ⊢
  generalize Sem.run P (Builtin.firstCells 1 m (.slice (some ad) m c)) w = r1 at h ⊢
  cases r1 <;> simp [Result.andThen] at h ⊢
  rename_i a w1
  generalize Sem.run P (storeCells ⟨g, k0 + n, none⟩ a.toList) w1 = r2 at h ⊢
  cases r2 <;> simp [Result.andThen] at h ⊢
  exact h.2
end Go.Proofs.Ytflaeljjalpnkaa
-- OffB
namespace Go.Proofs.Ytflaeljjalpnkaa
set_option linter.unusedVariables false
set_option linter.unusedSimpArgs false
open Go.RowKit

theorem yV_eq {d e : Nat → Int} {j : Nat} (h : d j = e j) : yV d j = yV e j := by unfold yV; rw [h]

set_option maxRecDepth 8000 in
theorem run_wide_off (w : World) (base g cap cc : Nat) (ad : Addr) (D E : Nat → Int) (ty : TypeId) (hb0 : base ≤ w.heap.size) (hcap : 92 ≤ cap) (hcm : 16 + cap ≤ maxLen)
    (ho : OwnB w base (.slice (some ⟨g, 0, none⟩) 108 (16 + cap)) 108 D) (hnews : ∀ j u, (yL E 16)[j]? = some u → w.cell? (ad.add j) = some u) :
    ∃ A c' w', (Builtin.append_ #[32, 32] ty #[.slice (some ⟨g, 16, none⟩) 92 cap, .slice (some ad) 16 cc]).run Try.prog w = .ok (.slice A 108 c') w' ∧
      108 ≤ c' ∧ c' ≤ maxLen ∧ SlIs w' A 108 (yV (cat (shf D 16) 92 E)) ∧ SlIs w' (some ⟨g, 0, none⟩) 16 (yV D) ∧ Below base w w' := by
  obtain ⟨i0, hi0, hz0, hz1, hz2⟩ := info_parts info_u8
  have hlt := ho.lt g rfl
  by_cases hf : 108 ≤ cap
  · obtain ⟨w', hrun, hown, hgr⟩ := run_append_fits (P := Try.prog) w base 32 ty 5 i0 1 Try.underlying32 hi0 hz1 g 108 (16 + cap) (yL D 108) ho ad 16 cc (yL E 16) (by rw [yL_len]) hnews (yL_one' _ _) (by omega)
    have h2 := run_append_off w w' 32 ty 5 i0 Try.underlying32 hi0 hz1 g 16 92 cap 16 cc ad _ (by omega) hrun
    rw [← yL_cat] at hown
    obtain ⟨A', c', hA, e1, m1, hs⟩ := OwnB.byS (v := .slice (some ⟨g, 0, none⟩) (108 + 16) (16 + cap)) (n := 108 + 16) (d := cat D 108 E) hown
    cases hA
    obtain ⟨b, o, hbo, hbl, hc⟩ := hs (by omega)
    cases hbo
    refine ⟨_, _, w', h2, by omega, by omega, ?_, ?_, Below.grown (Below.refl _ _) hgr hb0 (fun j hj => by cases hj; exact hlt.1)⟩
    · refine SlIs.congr (slis_at (n := 124) (o := 0) hbl hc 16 108 (by omega)) (fun j hj => ?_)
      refine yV_eq ?_
      unfold shf cat
      by_cases hj2 : j < 92
      · rw [if_pos (by omega), if_pos hj2]
      · rw [if_neg (by omega), if_neg hj2]
        congr 1
        omega
    · refine SlIs.congr (slis_at0 (n := 124) (o := 0) hbl hc 16 (by omega)) (fun j hj => ?_)
      exact yV_eq (cat_lo (by omega))
  · obtain ⟨A', c', hA, e1, m1, hs⟩ := ho.byS
    cases hA
    obtain ⟨b, o, hbo, hbl, hc⟩ := hs (by omega)
    cases hbo
    have hc1 := slis_at (n := 108) (o := 0) hbl hc 16 92 (by omega)
    obtain ⟨b1, o1, hbo1, hbl1, hc2⟩ := hc1 (by omega)
    cases hbo1
    have hk := slis_at0 (n := 108) (o := 0) hbl hc 16 (by omega)
    obtain ⟨v', w', hrun, hown, hgr⟩ := run_append_arg_grows (P := Try.prog) w 32 ty 5 i0 _ 1 1 Try.underlying32 hi0 hz0 hz1 hz2 rfl (by omega) ⟨g, 16, none⟩ 92 cap (yL (shf D 16) 92) (by rw [yL_len]) (news_slis hc2 (Nat.le_refl 92)) ad 16 cc (yL E 16) (by rw [yL_len]) hnews (by omega) (by simp [maxLen]) (by omega)
    rw [← yL_cat] at hown
    obtain ⟨A', c', rfl, e2, m2, hs2⟩ := OwnB.byS (v := v') (n := 92 + 16) (d := cat (shf D 16) 92 E) hown
    exact ⟨A', c', w', hrun, e2, m2, hs2, hk.below (grownBy_bel hgr), (grownBy_bel hgr).mono hb0⟩
end Go.Proofs.Ytflaeljjalpnkaa
-- KeepE
namespace Go.Proofs.Ytflaeljjalpnkaa
set_option linter.unusedVariables false
set_option linter.unusedSimpArgs false
open Go.RowKit

attribute [local go_sem] bK_is
attribute [local go_sem ↓] load_Transfer store_Kept build_Kept
set_option maxRecDepth 8000 in
set_option maxHeartbeats 4000000 in
theorem keptTransfer_at (xi1 xi2 xd1 xd2 xc1 xc2 xm1 xm2 xw1 xw2 xtg xto xlg xcd xfl xst kh kl : Int) (hi1 : 0 ≤ xi1 ∧ xi1 < 18446744073709551616) (hi2 : 0 ≤ xi2 ∧ xi2 < 18446744073709551616) (hd1 : 0 ≤ xd1 ∧ xd1 < 18446744073709551616) (hd2 : 0 ≤ xd2 ∧ xd2 < 18446744073709551616) (hc1 : 0 ≤ xc1 ∧ xc1 < 18446744073709551616) (hc2 : 0 ≤ xc2 ∧ xc2 < 18446744073709551616) (hm1 : 0 ≤ xm1 ∧ xm1 < 18446744073709551616) (hm2 : 0 ≤ xm2 ∧ xm2 < 18446744073709551616) (hw1 : 0 ≤ xw1 ∧ xw1 < 18446744073709551616) (hw2 : 0 ≤ xw2 ∧ xw2 < 18446744073709551616) (htg : 0 ≤ xtg ∧ xtg < 18446744073709551616) (hto : 0 ≤ xto ∧ xto < 4294967296) (hlg : 0 ≤ xlg ∧ xlg < 4294967296) (hcd : 0 ≤ xcd ∧ xcd < 65536) (hfl : 0 ≤ xfl ∧ xfl < 65536) (hst : 0 ≤ xst ∧ xst < 18446744073709551616) (hkh : Wd kh) (hkl : Wd kl) (A B : Option Addr) (c k : Nat) (hC : 16 ≤ c ∧ c ≤ maxLen) (hk : 108 ≤ k ∧ k ≤ maxLen) (w : World) (hs : SlIs w A 16 (yV (putTransferD xi1 xi2 xd1 xd2 xc1 xc2 xm1 xm2 xw1 xw2 xtg xto xlg xcd xfl xst))) (ht : SlIs w B 108 (yV (cat (shf (putTransferD xi1 xi2 xd1 xd2 xc1 xc2 xm1 xm2 xw1 xw2 xtg xto xlg xcd xfl xst) 16) 92 (dgt kh kl)))) : Calls Try.prog 34 #[.slice A 16 c, .slice B 108 k] w fun r w' => r = .returned (.tuple #[.agg #[.int .u64 xi1, .int .u64 xi2, .int .u64 xd1, .int .u64 xd2, .int .u64 xc1, .int .u64 xc2, .int .u64 xm1, .int .u64 xm2, .int .u64 xw1, .int .u64 xw2, .int .u64 xtg, .int .u32 xto, .int .u32 xlg, .int .u16 xcd, .int .u16 xfl, .int .u64 xst, .int .u64 kh, .int .u64 kl], .bool true]) ∧ Below w.heap.size w w' := by
  have HG := Lib.hid (fun A c h1 h2 w hs => getTransfer_at xi1 xi2 xd1 xd2 xc1 xc2 xm1 xm2 xw1 xw2 xtg xto xlg xcd xfl xst hi1 hi2 hd1 hd2 hc1 hc2 hm1 hm2 hw1 hw2 htg hto hlg hcd hfl hst A c h1 h2 w hs)
  clear hi1 hi2 hd1 hd2 hc1 hc2 hm1 hm2 hw1 hw2 htg hto hlg hcd hfl hst
  generalize (putTransferD xi1 xi2 xd1 xd2 xc1 xc2 xm1 xm2 xw1 xw2 xtg xto xlg xcd xfl xst) = D at *
  obtain ⟨b, o, rfl, hbl, hc⟩ := ht (by omega)
  have v1 : SlIs w (some ⟨b, o, none⟩) 92 (yV (shf D 16)) := SlIs.congr (slis_at0 hbl hc 92 (by omega)) (fun j hj => yV_eq (cat_lo hj))
  have v2 : SlIs w (some ⟨b, o + 92, none⟩) 16 (yV (dgt kh kl)) := SlIs.congr (slis_at hbl hc 92 16 (by omega)) (fun j hj => yV_eq (cat_hi j))
  have HC := Lib.hid (fun g w hg hs ht => concat_two A (some ⟨b, o, none⟩) 16 92 c k g D (shf D 16) (by omega) (by omega) (by omega) w hg hs ht)
  rw [cat_shf, show 16 + 92 = 108 from rfl] at HC
  have HR := fun W (h : Below w.heap.size w W) => read_yes (some ⟨b, o + 92, none⟩) (k - 92) (dgt kh kl) (dgt_ok kh kl) W (v2.below h)
  rw [(num_dgt hkh hkl).1, (num_dgt hkh hkl).2] at HR
  replace HR := Lib.hid HR
  have m2 : k ≤ 9223372036854775807 := hk.2
  have m3 : 108 ≤ k := hk.1
  replace hs := Lib.hid hs
  replace v1 := Lib.hid v1
  clear ht hc v2 hkh hkl
  go_enter Try.func34, Try.ntmps34
  go_wp2_with fail
  refine (HC.out _ _ (by (repeat (first | with_reducible assumption | (with_reducible refine Blk.new' ?_; first | with_reducible rfl | (simp; done)) | with_reducible refine Blk.alloc ?_ _ | with_reducible refine Blk.grow ?_ _ | with_reducible refine Blk.drew ?_ | with_reducible refine Blk.drewN ?_ _ | (with_reducible refine Blk.far ?_ (by first | (dsimp only; omega) | (simp; omega)) _) | (with_reducible apply Blk.two) | (with_reducible refine Blk.set' ?_ _ _ ?_) | (with_reducible rfl) | rfl))) (hs.out.below (by (repeat (first | exact Below.refl _ _ | assumption | refine below_drewN ?_ _ | refine bel_grow ?_ _ | refine Below.drew ?_ | refine bel_alloc ?_ _ | refine bel_set ?_ (by first | exact Nat.le_refl _ | (simp; done) | (simp; omega) | omega) _ | refine bel_trans ?_ (by assumption))))) (v1.out.below (by (repeat (first | exact Below.refl _ _ | assumption | refine below_drewN ?_ _ | refine bel_grow ?_ _ | refine Below.drew ?_ | refine bel_alloc ?_ _ | refine bel_set ?_ (by first | exact Nat.le_refl _ | (simp; done) | (simp; omega) | omega) _ | refine bel_trans ?_ (by assumption)))))).mono ?_
  rintro e0 w1 ⟨v, rfl, ho, hb1⟩
  obtain ⟨A1, c1, rfl, e1, m1, s1⟩ := ho.byS
  have hB : Below w.heap.size w w1 := bel_eld (w := w) (X := _) (by (repeat (first | exact Below.refl _ _ | assumption | refine below_drewN ?_ _ | refine bel_grow ?_ _ | refine Below.drew ?_ | refine bel_alloc ?_ _ | refine bel_set ?_ (by first | exact Nat.le_refl _ | (simp; done) | (simp; omega) | omega) _ | refine bel_trans ?_ (by assumption)))) hb1
  have f_a : Blk w1 w.heap.size 78 #[.int .u64 0, .int .u64 0, .int .u64 0, .int .u64 0, .int .u64 0, .int .u64 0, .int .u64 0, .int .u64 0, .int .u64 0, .int .u64 0, .int .u64 0, .int .u32 0, .int .u32 0, .int .u16 0, .int .u16 0, .int .u64 0, .int .u64 0, .int .u64 0] := Blk.kept (by (repeat (first | with_reducible assumption | (with_reducible refine Blk.new' ?_; first | with_reducible rfl | (simp; done)) | with_reducible refine Blk.alloc ?_ _ | with_reducible refine Blk.grow ?_ _ | with_reducible refine Blk.drew ?_ | with_reducible refine Blk.drewN ?_ _ | (with_reducible refine Blk.far ?_ (by first | (dsimp only; omega) | (simp; omega)) _) | (with_reducible apply Blk.two) | (with_reducible refine Blk.set' ?_ _ _ ?_) | (with_reducible rfl) | rfl))) hb1
  clear ho hb1
  have a_0 : w1.cell? ⟨w.heap.size, 0, none⟩ = some (.int .u64 0) := (f_a).cell 0
  have a_1 : w1.cell? ⟨w.heap.size, 1, none⟩ = some (.int .u64 0) := (f_a).cell 1
  have a_2 : w1.cell? ⟨w.heap.size, 2, none⟩ = some (.int .u64 0) := (f_a).cell 2
  have a_3 : w1.cell? ⟨w.heap.size, 3, none⟩ = some (.int .u64 0) := (f_a).cell 3
  have a_4 : w1.cell? ⟨w.heap.size, 4, none⟩ = some (.int .u64 0) := (f_a).cell 4
  have a_5 : w1.cell? ⟨w.heap.size, 5, none⟩ = some (.int .u64 0) := (f_a).cell 5
  have a_6 : w1.cell? ⟨w.heap.size, 6, none⟩ = some (.int .u64 0) := (f_a).cell 6
  have a_7 : w1.cell? ⟨w.heap.size, 7, none⟩ = some (.int .u64 0) := (f_a).cell 7
  have a_8 : w1.cell? ⟨w.heap.size, 8, none⟩ = some (.int .u64 0) := (f_a).cell 8
  have a_9 : w1.cell? ⟨w.heap.size, 9, none⟩ = some (.int .u64 0) := (f_a).cell 9
  have a_10 : w1.cell? ⟨w.heap.size, 10, none⟩ = some (.int .u64 0) := (f_a).cell 10
  have a_11 : w1.cell? ⟨w.heap.size, 11, none⟩ = some (.int .u32 0) := (f_a).cell 11
  have a_12 : w1.cell? ⟨w.heap.size, 12, none⟩ = some (.int .u32 0) := (f_a).cell 12
  have a_13 : w1.cell? ⟨w.heap.size, 13, none⟩ = some (.int .u16 0) := (f_a).cell 13
  have a_14 : w1.cell? ⟨w.heap.size, 14, none⟩ = some (.int .u16 0) := (f_a).cell 14
  have a_15 : w1.cell? ⟨w.heap.size, 15, none⟩ = some (.int .u64 0) := (f_a).cell 15
  have a_16 : w1.cell? ⟨w.heap.size, 16, none⟩ = some (.int .u64 0) := (f_a).cell 16
  have a_17 : w1.cell? ⟨w.heap.size, 17, none⟩ = some (.int .u64 0) := (f_a).cell 17
  have a_f0 := (f_a).frozen 0
  have a_f1 := (f_a).frozen 1
  have a_f2 := (f_a).frozen 2
  have a_f3 := (f_a).frozen 3
  have a_f4 := (f_a).frozen 4
  have a_f5 := (f_a).frozen 5
  have a_f6 := (f_a).frozen 6
  have a_f7 := (f_a).frozen 7
  have a_f8 := (f_a).frozen 8
  have a_f9 := (f_a).frozen 9
  have a_f10 := (f_a).frozen 10
  have a_f11 := (f_a).frozen 11
  have a_f12 := (f_a).frozen 12
  have a_f13 := (f_a).frozen 13
  have a_f14 := (f_a).frozen 14
  have a_f15 := (f_a).frozen 15
  have a_f16 := (f_a).frozen 16
  have a_f17 := (f_a).frozen 17
  have a_l := (f_a).lt
  replace f_a := Lib.hid f_a
  replace hB := Lib.hid hB
  go_wp2_with fail
  refine (HG.out A1 c1 e1 m1 _ s1).mono ?_
  rintro e w_2 ⟨rfl, hb_2⟩
  have z_2 := hb_2.size
  try simp at z_2
  have t_ := hB.out
  have hB_2 := bel_eld (w := w) (X := _) (by first | ((repeat (first | with_reducible exact Below.refl _ _ | with_reducible assumption | (with_reducible refine bel_set ?_ (by first | exact Nat.le_refl _ | (simp; done) | (simp; omega) | omega) _) | with_reducible refine bel_grow ?_ _ | with_reducible refine Below.drew ?_ | with_reducible refine below_drewN ?_ _ | with_reducible refine bel_alloc ?_ _ | with_reducible refine bel_trans ?_ (by assumption))); done) | (repeat (first | exact Below.refl _ _ | assumption | refine below_drewN ?_ _ | refine bel_grow ?_ _ | refine Below.drew ?_ | refine bel_alloc ?_ _ | refine bel_set ?_ (by first | exact Nat.le_refl _ | (simp; done) | (simp; omega) | omega) _ | refine bel_trans ?_ (by assumption)))) hb_2
  clear t_
  have t_a := f_a.out
  have g_a : Blk w_2 (w.heap.size) 78 #[.int .u64 0, .int .u64 0, .int .u64 0, .int .u64 0, .int .u64 0, .int .u64 0, .int .u64 0, .int .u64 0, .int .u64 0, .int .u64 0, .int .u64 0, .int .u32 0, .int .u32 0, .int .u16 0, .int .u16 0, .int .u64 0, .int .u64 0, .int .u64 0] := by
    refine Blk.kept ?_ hb_2
    (repeat (first | with_reducible assumption | (with_reducible refine Blk.new' ?_; first | with_reducible rfl | (simp; done)) | with_reducible refine Blk.alloc ?_ _ | with_reducible refine Blk.grow ?_ _ | with_reducible refine Blk.drew ?_ | with_reducible refine Blk.drewN ?_ _ | (with_reducible refine Blk.far ?_ (by first | (dsimp only; omega) | (simp; omega)) _) | (with_reducible apply Blk.two) | (with_reducible refine Blk.set' ?_ _ _ ?_) | (with_reducible rfl) | rfl))
  clear f_a a_l a_0 a_1 a_2 a_3 a_4 a_5 a_6 a_7 a_8 a_9 a_10 a_11 a_12 a_13 a_14 a_15 a_16 a_17 a_f0 a_f1 a_f2 a_f3 a_f4 a_f5 a_f6 a_f7 a_f8 a_f9 a_f10 a_f11 a_f12 a_f13 a_f14 a_f15 a_f16 a_f17 t_a hB hb_2
  have f_a := g_a
  clear g_a
  have a_0 : w_2.cell? ⟨w.heap.size, 0, none⟩ = some (.int .u64 0) := (f_a).cell 0
  have a_1 : w_2.cell? ⟨w.heap.size, 1, none⟩ = some (.int .u64 0) := (f_a).cell 1
  have a_2 : w_2.cell? ⟨w.heap.size, 2, none⟩ = some (.int .u64 0) := (f_a).cell 2
  have a_3 : w_2.cell? ⟨w.heap.size, 3, none⟩ = some (.int .u64 0) := (f_a).cell 3
  have a_4 : w_2.cell? ⟨w.heap.size, 4, none⟩ = some (.int .u64 0) := (f_a).cell 4
  have a_5 : w_2.cell? ⟨w.heap.size, 5, none⟩ = some (.int .u64 0) := (f_a).cell 5
  have a_6 : w_2.cell? ⟨w.heap.size, 6, none⟩ = some (.int .u64 0) := (f_a).cell 6
  have a_7 : w_2.cell? ⟨w.heap.size, 7, none⟩ = some (.int .u64 0) := (f_a).cell 7
  have a_8 : w_2.cell? ⟨w.heap.size, 8, none⟩ = some (.int .u64 0) := (f_a).cell 8
  have a_9 : w_2.cell? ⟨w.heap.size, 9, none⟩ = some (.int .u64 0) := (f_a).cell 9
  have a_10 : w_2.cell? ⟨w.heap.size, 10, none⟩ = some (.int .u64 0) := (f_a).cell 10
  have a_11 : w_2.cell? ⟨w.heap.size, 11, none⟩ = some (.int .u32 0) := (f_a).cell 11
  have a_12 : w_2.cell? ⟨w.heap.size, 12, none⟩ = some (.int .u32 0) := (f_a).cell 12
  have a_13 : w_2.cell? ⟨w.heap.size, 13, none⟩ = some (.int .u16 0) := (f_a).cell 13
  have a_14 : w_2.cell? ⟨w.heap.size, 14, none⟩ = some (.int .u16 0) := (f_a).cell 14
  have a_15 : w_2.cell? ⟨w.heap.size, 15, none⟩ = some (.int .u64 0) := (f_a).cell 15
  have a_16 : w_2.cell? ⟨w.heap.size, 16, none⟩ = some (.int .u64 0) := (f_a).cell 16
  have a_17 : w_2.cell? ⟨w.heap.size, 17, none⟩ = some (.int .u64 0) := (f_a).cell 17
  have a_f0 := (f_a).frozen 0
  have a_f1 := (f_a).frozen 1
  have a_f2 := (f_a).frozen 2
  have a_f3 := (f_a).frozen 3
  have a_f4 := (f_a).frozen 4
  have a_f5 := (f_a).frozen 5
  have a_f6 := (f_a).frozen 6
  have a_f7 := (f_a).frozen 7
  have a_f8 := (f_a).frozen 8
  have a_f9 := (f_a).frozen 9
  have a_f10 := (f_a).frozen 10
  have a_f11 := (f_a).frozen 11
  have a_f12 := (f_a).frozen 12
  have a_f13 := (f_a).frozen 13
  have a_f14 := (f_a).frozen 14
  have a_f15 := (f_a).frozen 15
  have a_f16 := (f_a).frozen 16
  have a_f17 := (f_a).frozen 17
  have a_l := (f_a).lt
  replace f_a := Lib.hid f_a
  replace hB_2 := Lib.hid hB_2
  as_aux_lemma =>
    go_wp2_with fail
    refine (HR.out _ (by have t := hB_2.out; (repeat (first | with_reducible exact Below.refl _ _ | with_reducible assumption | (with_reducible refine bel_set ?_ (by first | exact Nat.le_refl _ | (simp; done) | (simp; omega) | omega) _) | with_reducible refine bel_grow ?_ _ | with_reducible refine Below.drew ?_ | with_reducible refine below_drewN ?_ _ | with_reducible refine bel_alloc ?_ _ | with_reducible refine bel_trans ?_ (by assumption))))).mono ?_
    rintro e w_3 ⟨rfl, hb_3⟩
    have z_3 := hb_3.size
    try simp at z_3
    have t_ := hB_2.out
    have hB_3 := bel_eld (w := w) (X := _) (by first | ((repeat (first | with_reducible exact Below.refl _ _ | with_reducible assumption | (with_reducible refine bel_set ?_ (by first | exact Nat.le_refl _ | (simp; done) | (simp; omega) | omega) _) | with_reducible refine bel_grow ?_ _ | with_reducible refine Below.drew ?_ | with_reducible refine below_drewN ?_ _ | with_reducible refine bel_alloc ?_ _ | with_reducible refine bel_trans ?_ (by assumption))); done) | (repeat (first | exact Below.refl _ _ | assumption | refine below_drewN ?_ _ | refine bel_grow ?_ _ | refine Below.drew ?_ | refine bel_alloc ?_ _ | refine bel_set ?_ (by first | exact Nat.le_refl _ | (simp; done) | (simp; omega) | omega) _ | refine bel_trans ?_ (by assumption)))) hb_3
    clear t_
    have t_a := f_a.out
    have g_a : Blk w_3 (w.heap.size) 78 #[.int .u64 0, .int .u64 0, .int .u64 0, .int .u64 0, .int .u64 0, .int .u64 0, .int .u64 0, .int .u64 0, .int .u64 0, .int .u64 0, .int .u64 0, .int .u32 0, .int .u32 0, .int .u16 0, .int .u16 0, .int .u64 0, .int .u64 0, .int .u64 0] := by
      refine Blk.kept ?_ hb_3
      (repeat (first | with_reducible assumption | (with_reducible refine Blk.new' ?_; first | with_reducible rfl | (simp; done)) | with_reducible refine Blk.alloc ?_ _ | with_reducible refine Blk.grow ?_ _ | with_reducible refine Blk.drew ?_ | with_reducible refine Blk.drewN ?_ _ | (with_reducible refine Blk.far ?_ (by first | (dsimp only; omega) | (simp; omega)) _) | (with_reducible apply Blk.two) | (with_reducible refine Blk.set' ?_ _ _ ?_) | (with_reducible rfl) | rfl))
    have g_x : Blk w_3 (w_2.heap.size) 66 #[.int .u64 xi1, .int .u64 xi2, .int .u64 xd1, .int .u64 xd2, .int .u64 xc1, .int .u64 xc2, .int .u64 xm1, .int .u64 xm2, .int .u64 xw1, .int .u64 xw2, .int .u64 xtg, .int .u32 xto, .int .u32 xlg, .int .u16 xcd, .int .u16 xfl, .int .u64 xst] := by
      refine Blk.kept ?_ hb_3
      (repeat (first | with_reducible assumption | (with_reducible refine Blk.new' ?_; first | with_reducible rfl | (simp; done)) | with_reducible refine Blk.alloc ?_ _ | with_reducible refine Blk.grow ?_ _ | with_reducible refine Blk.drew ?_ | with_reducible refine Blk.drewN ?_ _ | (with_reducible refine Blk.far ?_ (by first | (dsimp only; omega) | (simp; omega)) _) | (with_reducible apply Blk.two) | (with_reducible refine Blk.set' ?_ _ _ ?_) | (with_reducible rfl) | rfl))
    clear f_a a_l a_0 a_1 a_2 a_3 a_4 a_5 a_6 a_7 a_8 a_9 a_10 a_11 a_12 a_13 a_14 a_15 a_16 a_17 a_f0 a_f1 a_f2 a_f3 a_f4 a_f5 a_f6 a_f7 a_f8 a_f9 a_f10 a_f11 a_f12 a_f13 a_f14 a_f15 a_f16 a_f17 t_a hB_2 hb_3
    have f_a := g_a
    clear g_a
    have f_x := g_x
    clear g_x
    have a_0 : w_3.cell? ⟨w.heap.size, 0, none⟩ = some (.int .u64 0) := (f_a).cell 0
    have a_1 : w_3.cell? ⟨w.heap.size, 1, none⟩ = some (.int .u64 0) := (f_a).cell 1
    have a_2 : w_3.cell? ⟨w.heap.size, 2, none⟩ = some (.int .u64 0) := (f_a).cell 2
    have a_3 : w_3.cell? ⟨w.heap.size, 3, none⟩ = some (.int .u64 0) := (f_a).cell 3
    have a_4 : w_3.cell? ⟨w.heap.size, 4, none⟩ = some (.int .u64 0) := (f_a).cell 4
    have a_5 : w_3.cell? ⟨w.heap.size, 5, none⟩ = some (.int .u64 0) := (f_a).cell 5
    have a_6 : w_3.cell? ⟨w.heap.size, 6, none⟩ = some (.int .u64 0) := (f_a).cell 6
    have a_7 : w_3.cell? ⟨w.heap.size, 7, none⟩ = some (.int .u64 0) := (f_a).cell 7
    have a_8 : w_3.cell? ⟨w.heap.size, 8, none⟩ = some (.int .u64 0) := (f_a).cell 8
    have a_9 : w_3.cell? ⟨w.heap.size, 9, none⟩ = some (.int .u64 0) := (f_a).cell 9
    have a_10 : w_3.cell? ⟨w.heap.size, 10, none⟩ = some (.int .u64 0) := (f_a).cell 10
    have a_11 : w_3.cell? ⟨w.heap.size, 11, none⟩ = some (.int .u32 0) := (f_a).cell 11
    have a_12 : w_3.cell? ⟨w.heap.size, 12, none⟩ = some (.int .u32 0) := (f_a).cell 12
    have a_13 : w_3.cell? ⟨w.heap.size, 13, none⟩ = some (.int .u16 0) := (f_a).cell 13
    have a_14 : w_3.cell? ⟨w.heap.size, 14, none⟩ = some (.int .u16 0) := (f_a).cell 14
    have a_15 : w_3.cell? ⟨w.heap.size, 15, none⟩ = some (.int .u64 0) := (f_a).cell 15
    have a_16 : w_3.cell? ⟨w.heap.size, 16, none⟩ = some (.int .u64 0) := (f_a).cell 16
    have a_17 : w_3.cell? ⟨w.heap.size, 17, none⟩ = some (.int .u64 0) := (f_a).cell 17
    have a_f0 := (f_a).frozen 0
    have a_f1 := (f_a).frozen 1
    have a_f2 := (f_a).frozen 2
    have a_f3 := (f_a).frozen 3
    have a_f4 := (f_a).frozen 4
    have a_f5 := (f_a).frozen 5
    have a_f6 := (f_a).frozen 6
    have a_f7 := (f_a).frozen 7
    have a_f8 := (f_a).frozen 8
    have a_f9 := (f_a).frozen 9
    have a_f10 := (f_a).frozen 10
    have a_f11 := (f_a).frozen 11
    have a_f12 := (f_a).frozen 12
    have a_f13 := (f_a).frozen 13
    have a_f14 := (f_a).frozen 14
    have a_f15 := (f_a).frozen 15
    have a_f16 := (f_a).frozen 16
    have a_f17 := (f_a).frozen 17
    have a_l := (f_a).lt
    replace f_a := Lib.hid f_a
    have x_0 : w_3.cell? ⟨w_2.heap.size, 0, none⟩ = some (.int .u64 xi1) := (f_x).cell 0
    have x_1 : w_3.cell? ⟨w_2.heap.size, 1, none⟩ = some (.int .u64 xi2) := (f_x).cell 1
    have x_2 : w_3.cell? ⟨w_2.heap.size, 2, none⟩ = some (.int .u64 xd1) := (f_x).cell 2
    have x_3 : w_3.cell? ⟨w_2.heap.size, 3, none⟩ = some (.int .u64 xd2) := (f_x).cell 3
    have x_4 : w_3.cell? ⟨w_2.heap.size, 4, none⟩ = some (.int .u64 xc1) := (f_x).cell 4
    have x_5 : w_3.cell? ⟨w_2.heap.size, 5, none⟩ = some (.int .u64 xc2) := (f_x).cell 5
    have x_6 : w_3.cell? ⟨w_2.heap.size, 6, none⟩ = some (.int .u64 xm1) := (f_x).cell 6
    have x_7 : w_3.cell? ⟨w_2.heap.size, 7, none⟩ = some (.int .u64 xm2) := (f_x).cell 7
    have x_8 : w_3.cell? ⟨w_2.heap.size, 8, none⟩ = some (.int .u64 xw1) := (f_x).cell 8
    have x_9 : w_3.cell? ⟨w_2.heap.size, 9, none⟩ = some (.int .u64 xw2) := (f_x).cell 9
    have x_10 : w_3.cell? ⟨w_2.heap.size, 10, none⟩ = some (.int .u64 xtg) := (f_x).cell 10
    have x_11 : w_3.cell? ⟨w_2.heap.size, 11, none⟩ = some (.int .u32 xto) := (f_x).cell 11
    have x_12 : w_3.cell? ⟨w_2.heap.size, 12, none⟩ = some (.int .u32 xlg) := (f_x).cell 12
    have x_13 : w_3.cell? ⟨w_2.heap.size, 13, none⟩ = some (.int .u16 xcd) := (f_x).cell 13
    have x_14 : w_3.cell? ⟨w_2.heap.size, 14, none⟩ = some (.int .u16 xfl) := (f_x).cell 14
    have x_15 : w_3.cell? ⟨w_2.heap.size, 15, none⟩ = some (.int .u64 xst) := (f_x).cell 15
    have x_f0 := (f_x).frozen 0
    have x_f1 := (f_x).frozen 1
    have x_f2 := (f_x).frozen 2
    have x_f3 := (f_x).frozen 3
    have x_f4 := (f_x).frozen 4
    have x_f5 := (f_x).frozen 5
    have x_f6 := (f_x).frozen 6
    have x_f7 := (f_x).frozen 7
    have x_f8 := (f_x).frozen 8
    have x_f9 := (f_x).frozen 9
    have x_f10 := (f_x).frozen 10
    have x_f11 := (f_x).frozen 11
    have x_f12 := (f_x).frozen 12
    have x_f13 := (f_x).frozen 13
    have x_f14 := (f_x).frozen 14
    have x_f15 := (f_x).frozen 15
    have x_l := (f_x).lt
    replace f_x := Lib.hid f_x
    replace hB_3 := Lib.hid hB_3
    as_aux_lemma =>
      go_upto_region 5 with fail
      refine abs_wp (fun X => Below w.heap.size w X ∧ Blk X w.heap.size 78 #[.int .u64 0, .int .u64 0, .int .u64 0, .int .u64 0, .int .u64 0, .int .u64 0, .int .u64 0, .int .u64 0, .int .u64 0, .int .u64 0, .int .u64 0, .int .u32 0, .int .u32 0, .int .u16 0, .int .u16 0, .int .u64 0, .int .u64 0, .int .u64 0] ∧ Blk X w_2.heap.size 66 #[.int .u64 xi1, .int .u64 xi2, .int .u64 xd1, .int .u64 xd2, .int .u64 xc1, .int .u64 xc2, .int .u64 xm1, .int .u64 xm2, .int .u64 xw1, .int .u64 xw2, .int .u64 xtg, .int .u32 xto, .int .u32 xlg, .int .u16 xcd, .int .u16 xfl, .int .u64 xst] ∧ Blk X w_3.heap.size 24 #[.int .u64 kh, .int .u64 kl] ∧ w.heap.size < w_3.heap.size) ?_ ?_
      · have t := hB_3.out
        refine ⟨?_, f_a.out.alloc _, f_x.out.alloc _, Blk.new _ _ _, f_a.out.lt⟩
        (repeat (first | with_reducible exact Below.refl _ _ | with_reducible assumption | (with_reducible refine bel_set ?_ (by first | exact Nat.le_refl _ | (simp; done) | (simp; omega) | omega) _) | with_reducible refine bel_grow ?_ _ | with_reducible refine Below.drew ?_ | with_reducible refine below_drewN ?_ _ | with_reducible refine bel_alloc ?_ _ | with_reducible refine bel_trans ?_ (by assumption)))
      clear hB_3 f_a f_x a_0 a_f0 a_1 a_f1 a_2 a_f2 a_3 a_f3 a_4 a_f4 a_5 a_f5 a_6 a_f6 a_7 a_f7 a_8 a_f8 a_9 a_f9 a_10 a_f10 a_11 a_f11 a_12 a_f12 a_13 a_f13 a_14 a_f14 a_15 a_f15 a_16 a_f16 a_17 a_f17 a_l x_0 x_f0 x_1 x_f1 x_2 x_f2 x_3 x_f3 x_4 x_f4 x_5 x_f5 x_6 x_f6 x_7 x_f7 x_8 x_f8 x_9 x_f9 x_10 x_f10 x_11 x_f11 x_12 x_f12 x_13 x_f13 x_14 x_f14 x_15 x_f15 x_l
      rintro X ⟨bX, ga, gx, gy, l1⟩
      as_aux_lemma =>
        have r_x := loadV_blk (P := Try.prog) (ty := 66) (n := 16) gx rfl
        have r_a := storeV_blk (P := Try.prog) (ty := 78) (n := 18) (vs := #[.int .u64 xi1, .int .u64 xi2, .int .u64 xd1, .int .u64 xd2, .int .u64 xc1, .int .u64 xc2, .int .u64 xm1, .int .u64 xm2, .int .u64 xw1, .int .u64 xw2, .int .u64 xtg, .int .u32 xto, .int .u32 xlg, .int .u16 xcd, .int .u16 xfl, .int .u64 xst, .int .u64 kh, .int .u64 kl]) ga rfl rfl rfl
        have y0 := (gy).cell 0
        have y1 := (gy).cell 1
        have yf0 := (gy).frozen 0
        have yf1 := (gy).frozen 1
        have yl := (gy).lt
        replace ga := Lib.hid ga
        replace bX := Lib.hid bX
        go_wp2_with fail
        refine abs_post (fun Y => Below w.heap.size w Y ∧ Blk Y w.heap.size 78 #[.int .u64 xi1, .int .u64 xi2, .int .u64 xd1, .int .u64 xd2, .int .u64 xc1, .int .u64 xc2, .int .u64 xm1, .int .u64 xm2, .int .u64 xw1, .int .u64 xw2, .int .u64 xtg, .int .u32 xto, .int .u32 xlg, .int .u16 xcd, .int .u16 xfl, .int .u64 xst, .int .u64 kh, .int .u64 kl]) ?_ ?_
        · refine ⟨below_setRow bX.out (Nat.le_refl _) _, ?_⟩
          refine ga.out.setRow ?_
          (simp; done)
        rintro Y ⟨bY, gY⟩
        have z0 := (gY).cell 0
        have z1 := (gY).cell 1
        have z2 := (gY).cell 2
        have z3 := (gY).cell 3
        have z4 := (gY).cell 4
        have z5 := (gY).cell 5
        have z6 := (gY).cell 6
        have z7 := (gY).cell 7
        have z8 := (gY).cell 8
        have z9 := (gY).cell 9
        have z10 := (gY).cell 10
        have z11 := (gY).cell 11
        have z12 := (gY).cell 12
        have z13 := (gY).cell 13
        have z14 := (gY).cell 14
        have z15 := (gY).cell 15
        have z16 := (gY).cell 16
        have z17 := (gY).cell 17
        have zf0 := (gY).frozen 0
        have zf1 := (gY).frozen 1
        have zf2 := (gY).frozen 2
        have zf3 := (gY).frozen 3
        have zf4 := (gY).frozen 4
        have zf5 := (gY).frozen 5
        have zf6 := (gY).frozen 6
        have zf7 := (gY).frozen 7
        have zf8 := (gY).frozen 8
        have zf9 := (gY).frozen 9
        have zf10 := (gY).frozen 10
        have zf11 := (gY).frozen 11
        have zf12 := (gY).frozen 12
        have zf13 := (gY).frozen 13
        have zf14 := (gY).frozen 14
        have zf15 := (gY).frozen 15
        have zf16 := (gY).frozen 16
        have zf17 := (gY).frozen 17
        have zl := (gY).lt
        refine bodyPost_ret (v := .tuple #[.agg #[.int .u64 xi1, .int .u64 xi2, .int .u64 xd1, .int .u64 xd2, .int .u64 xc1, .int .u64 xc2, .int .u64 xm1, .int .u64 xm2, .int .u64 xw1, .int .u64 xw2, .int .u64 xtg, .int .u32 xto, .int .u32 xlg, .int .u16 xcd, .int .u16 xfl, .int .u64 xst, .int .u64 kh, .int .u64 kl], .bool true]) (by simp [results, Try.results34, go_sem, z0, z1, z2, z3, z4, z5, z6, z7, z8, z9, z10, z11, z12, z13, z14, z15, z16, z17, zl]) rfl ⟨rfl, bY⟩
end Go.Proofs.Ytflaeljjalpnkaa
