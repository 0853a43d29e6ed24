/-
  The document's Same, at equal nodes.
-/
import Derived.Test.YtbmdnifkjcimcaaNo
namespace Go.Proofs.Ytbmdnifkjcimcaa
set_option linter.unusedVariables false
set_option linter.unusedSimpArgs false
open Go.RowKit

set_option maxRecDepth 8000 in
set_option maxHeartbeats 8000000 in
theorem same_yes (lf : Bool) (A1 A2 A3 B1 B2 B3 : Option Addr) (kn c1 e1 vn c2 e2 cn c3 e3 : Nat) (KL VL : Nat → Nat) (K V : Nat → Nat → Int) (C : Nat → Int) (w : World) (m1 : kn ≤ 1000000) (m2 : vn ≤ 1000000) (m3 : cn ≤ 1000000)
    (hA1 : SlIs w A1 kn (sV KL K)) (hA2 : SlIs w A2 vn (sV VL V)) (hA3 : SlIs w A3 cn (fun j => .int .u32 (C j))) (hB1 : SlIs w B1 kn (sV KL K)) (hB2 : SlIs w B2 vn (sV VL V)) (hB3 : SlIs w B3 cn (fun j => .int .u32 (C j))) :
    Calls Try.prog 21 #[.agg #[.bool lf, .slice A1 kn c1, .slice A2 vn c2, .slice A3 cn c3], .agg #[.bool lf, .slice B1 kn e1, .slice B2 vn e2, .slice B3 cn e3]] w fun r w' => r = .returned (.bool true) ∧ Below w.heap.size w w' := by
  replace hA1 := Lib.hid hA1
  replace hA2 := Lib.hid hA2
  replace hA3 := Lib.hid hA3
  replace hB1 := Lib.hid hB1
  replace hB2 := Lib.hid hB2
  replace hB3 := Lib.hid hB3
  have hb0 := Below.refl w.heap.size w
  go_enter Try.func21, Try.ntmps21
  go_upto_region 1 with fail
  replace hb0 := Lib.hid hb0
  refine abs_wp (fun Y_ => Below w.heap.size w Y_ ∧ Blk Y_ (w.heap.size) 36 #[.bool lf, .slice A1 kn c1, .slice A2 vn c2, .slice A3 cn c3] ∧ Blk Y_ (w.heap.size + 1) 36 #[.bool lf, .slice B1 kn e1, .slice B2 vn e2, .slice B3 cn e3]) ?_ ?_
  · have t_B := hb0.out
    refine ⟨by (repeat (first | with_reducible exact Below.refl _ _ | with_reducible assumption | (with_reducible refine bel_set ?_ (by first | exact Nat.le_refl _ | (simp; done) | (simp; omega) | omega) _) | with_reducible refine bel_grow ?_ _ | with_reducible refine Below.drew ?_ | with_reducible refine bel_alloc ?_ _ | with_reducible refine bel_eld ?_ (by assumption))), ?_, ?_⟩
    · (repeat (first | with_reducible assumption | (with_reducible refine Blk.new' ?_; first | with_reducible rfl | (simp; done)) | with_reducible refine Blk.alloc ?_ _ | with_reducible refine Blk.grow ?_ _ | with_reducible refine Blk.drew ?_ | with_reducible refine Blk.drewN ?_ _ | (with_reducible refine Blk.far ?_ (by first | (dsimp only; omega) | (simp; omega)) _) | (with_reducible apply Blk.two) | (with_reducible refine Blk.kept ?_ (by assumption)) | (with_reducible refine Blk.setRow ?_ (by first | rfl | (simp; done))) | (with_reducible refine Blk.setRow_far ?_ (by first | omega | (simp; omega)) _) | (with_reducible refine Blk.set' ?_ _ _ (by first | rfl | (simp; done)))))
    · (repeat (first | with_reducible assumption | (with_reducible refine Blk.new' ?_; first | with_reducible rfl | (simp; done)) | with_reducible refine Blk.alloc ?_ _ | with_reducible refine Blk.grow ?_ _ | with_reducible refine Blk.drew ?_ | with_reducible refine Blk.drewN ?_ _ | (with_reducible refine Blk.far ?_ (by first | (dsimp only; omega) | (simp; omega)) _) | (with_reducible apply Blk.two) | (with_reducible refine Blk.kept ?_ (by assumption)) | (with_reducible refine Blk.setRow ?_ (by first | rfl | (simp; done))) | (with_reducible refine Blk.setRow_far ?_ (by first | omega | (simp; omega)) _) | (with_reducible refine Blk.set' ?_ _ _ (by first | rfl | (simp; done)))))
  clear hb0
  rintro X ⟨hB_1, f_n, f_p⟩
  have n_0 : X.cell? ⟨w.heap.size, 0, none⟩ = some (.bool lf) := (f_n).cell 0
  have n_1 : X.cell? ⟨w.heap.size, 1, none⟩ = some (.slice A1 kn c1) := (f_n).cell 1
  have n_2 : X.cell? ⟨w.heap.size, 2, none⟩ = some (.slice A2 vn c2) := (f_n).cell 2
  have n_3 : X.cell? ⟨w.heap.size, 3, none⟩ = some (.slice A3 cn c3) := (f_n).cell 3
  have n_f0 := (f_n).frozen 0
  have n_f1 := (f_n).frozen 1
  have n_f2 := (f_n).frozen 2
  have n_f3 := (f_n).frozen 3
  have n_l := (f_n).lt
  replace f_n := Lib.hid f_n
  have p_0 : X.cell? ⟨w.heap.size + 1, 0, none⟩ = some (.bool lf) := (f_p).cell 0
  have p_1 : X.cell? ⟨w.heap.size + 1, 1, none⟩ = some (.slice B1 kn e1) := (f_p).cell 1
  have p_2 : X.cell? ⟨w.heap.size + 1, 2, none⟩ = some (.slice B2 vn e2) := (f_p).cell 2
  have p_3 : X.cell? ⟨w.heap.size + 1, 3, none⟩ = some (.slice B3 cn e3) := (f_p).cell 3
  have p_f0 := (f_p).frozen 0
  have p_f1 := (f_p).frozen 1
  have p_f2 := (f_p).frozen 2
  have p_f3 := (f_p).frozen 3
  have p_l := (f_p).lt
  replace f_p := Lib.hid f_p
  replace hB_1 := Lib.hid hB_1
  go_wp2_with fail
  go_loopw [5] (fun i wr => ∃ m : Nat, m ≤ kn ∧ i = .int .i64 m ∧ Hid (Below w.heap.size w wr) ∧ Hid (Blk wr w.heap.size 36 #[.bool lf, .slice A1 kn c1, .slice A2 vn c2, .slice A3 cn c3]) ∧ Hid (Blk wr (w.heap.size + 1) 36 #[.bool lf, .slice B1 kn e1, .slice B2 vn e2, .slice B3 cn e3])) (fun i _ => kn - (intOf i).toNat)
  case atStart => exact ⟨0, by omega, rfl, hB_1.out, f_n.out, f_p.out⟩
  case round =>
    obtain ⟨m, hm, rfl, hbw, gn, gp⟩ := hrel
    clear n_l p_l n_0 n_1 n_2 n_3 n_f0 n_f1 n_f2 n_f3 p_0 p_1 p_2 p_3 p_f0 p_f1 p_f2 p_f3 f_n f_p hB_1
    have x0 := (gn.out).cell 0
    have x1 := (gn.out).cell 1
    have x2 := (gn.out).cell 2
    have x3 := (gn.out).cell 3
    have xf0 := (gn.out).frozen 0
    have xf1 := (gn.out).frozen 1
    have xf2 := (gn.out).frozen 2
    have xf3 := (gn.out).frozen 3
    have xl := (gn.out).lt
    have z0 := (gp.out).cell 0
    have z1 := (gp.out).cell 1
    have z2 := (gp.out).cell 2
    have z3 := (gp.out).cell 3
    have zf0 := (gp.out).frozen 0
    have zf1 := (gp.out).frozen 1
    have zf2 := (gp.out).frozen 2
    have zf3 := (gp.out).frozen 3
    have zl := (gp.out).lt
    by_cases hlt : m < kn
    · obtain ⟨b, o, rfl, hbl, hcl⟩ := (hA1.out.below hbw.out) (by omega)
      obtain ⟨b2, o2, rfl, hbl2, hcl2⟩ := (hB1.out.below hbw.out) (by omega)
      have hc1 : wr.cell? ⟨b, o + m, none⟩ = some (.string (strF (K m) (KL m))) := hcl m hlt
      have hc2 : wr.cell? ⟨b2, o2 + m, none⟩ = some (.string (strF (K m) (KL m))) := hcl2 m hlt
      clear hcl hcl2
      generalize strF (K m) (KL m) = st at *
      go_wp2_with fail
      first | (with_reducible refine rgrow2 (by kernel_rfl) (by kernel_rfl) ?_) | (refine rgrow (by kernel_rfl) (by kernel_rfl) ?_)
      repeat (go_big_quiet_step ((fail)))
      refine wpQuiet_nil ?_
      intro dr
      go_wp2_with fail
      go_roundw
      case rel =>
        have t1 := hbw.out
        have t2 := gn.out
        have t3 := gp.out
        exact ⟨m + 1, by omega, by go_num, (by show Below _ _ _; (repeat (first | exact Below.refl _ _ | assumption | refine below_drewN ?_ _ | refine bel_grow ?_ _ | refine Below.drew ?_ | refine bel_alloc ?_ _ | refine bel_set ?_ (by first | exact Nat.le_refl _ | (simp; done) | (simp; omega) | omega) _ | refine bel_trans ?_ (by assumption)))), (by show Blk _ _ _ _; (repeat (first | with_reducible assumption | (with_reducible refine Blk.new' ?_; first | with_reducible rfl | (simp; done)) | with_reducible refine Blk.alloc ?_ _ | with_reducible refine Blk.grow ?_ _ | with_reducible refine Blk.drew ?_ | with_reducible refine Blk.drewN ?_ _ | (with_reducible refine Blk.far ?_ (by first | (dsimp only; omega) | (simp; omega)) _) | (with_reducible apply Blk.two) | (with_reducible refine Blk.set' ?_ _ _ ?_) | (with_reducible rfl) | rfl))), (by show Blk _ _ _ _; (repeat (first | with_reducible assumption | (with_reducible refine Blk.new' ?_; first | with_reducible rfl | (simp; done)) | with_reducible refine Blk.alloc ?_ _ | with_reducible refine Blk.grow ?_ _ | with_reducible refine Blk.drew ?_ | with_reducible refine Blk.drewN ?_ _ | (with_reducible refine Blk.far ?_ (by first | (dsimp only; omega) | (simp; omega)) _) | (with_reducible apply Blk.two) | (with_reducible refine Blk.set' ?_ _ _ ?_) | (with_reducible rfl) | rfl)))⟩
      case measure => simp [intOf]; omega
    · obtain rfl : kn = m := by omega
      go_wp2_with fail
      clear x0 x1 x2 x3 xf0 xf1 xf2 xf3 xl z0 z1 z2 z3 zf0 zf1 zf2 zf3 zl
      obtain ⟨Y, rfl⟩ : ∃ Y : World, Y = wr := ⟨_, rfl⟩
      have hbY := hbw
      have gnY := gn
      have gpY := gp
      clear hbw gn gp
      go_loopw [6] (fun i wr => ∃ m : Nat, m ≤ vn ∧ i = .int .i64 m ∧ Hid (Below w.heap.size w wr) ∧ Hid (Blk wr w.heap.size 36 #[.bool lf, .slice A1 kn c1, .slice A2 vn c2, .slice A3 cn c3]) ∧ Hid (Blk wr (w.heap.size + 1) 36 #[.bool lf, .slice B1 kn e1, .slice B2 vn e2, .slice B3 cn e3])) (fun i _ => vn - (intOf i).toNat)
      case atStart => exact ⟨0, by omega, rfl, hbY.out, gnY.out, gpY.out⟩
      case round =>
        obtain ⟨m, hm, rfl, hbw, gn, gp⟩ := hrel
        clear hbY gnY gpY
        have x0 := (gn.out).cell 0
        have x1 := (gn.out).cell 1
        have x2 := (gn.out).cell 2
        have x3 := (gn.out).cell 3
        have xf0 := (gn.out).frozen 0
        have xf1 := (gn.out).frozen 1
        have xf2 := (gn.out).frozen 2
        have xf3 := (gn.out).frozen 3
        have xl := (gn.out).lt
        have z0 := (gp.out).cell 0
        have z1 := (gp.out).cell 1
        have z2 := (gp.out).cell 2
        have z3 := (gp.out).cell 3
        have zf0 := (gp.out).frozen 0
        have zf1 := (gp.out).frozen 1
        have zf2 := (gp.out).frozen 2
        have zf3 := (gp.out).frozen 3
        have zl := (gp.out).lt
        by_cases hlt : m < vn
        · obtain ⟨b, o, rfl, hbl, hcl⟩ := (hA2.out.below hbw.out) (by omega)
          obtain ⟨b2, o2, rfl, hbl2, hcl2⟩ := (hB2.out.below hbw.out) (by omega)
          have hc1 : wr.cell? ⟨b, o + m, none⟩ = some (.string (strF (V m) (VL m))) := hcl m hlt
          have hc2 : wr.cell? ⟨b2, o2 + m, none⟩ = some (.string (strF (V m) (VL m))) := hcl2 m hlt
          clear hcl hcl2
          generalize strF (V m) (VL m) = st at *
          go_wp2_with fail
          first | (with_reducible refine rgrow2 (by kernel_rfl) (by kernel_rfl) ?_) | (refine rgrow (by kernel_rfl) (by kernel_rfl) ?_)
          repeat (go_big_quiet_step ((fail)))
          refine wpQuiet_nil ?_
          intro dr
          go_wp2_with fail
          go_roundw
          case rel =>
            have t1 := hbw.out
            have t2 := gn.out
            have t3 := gp.out
            exact ⟨m + 1, by omega, by go_num, (by show Below _ _ _; (repeat (first | exact Below.refl _ _ | assumption | refine below_drewN ?_ _ | refine bel_grow ?_ _ | refine Below.drew ?_ | refine bel_alloc ?_ _ | refine bel_set ?_ (by first | exact Nat.le_refl _ | (simp; done) | (simp; omega) | omega) _ | refine bel_trans ?_ (by assumption)))), (by show Blk _ _ _ _; (repeat (first | with_reducible assumption | (with_reducible refine Blk.new' ?_; first | with_reducible rfl | (simp; done)) | with_reducible refine Blk.alloc ?_ _ | with_reducible refine Blk.grow ?_ _ | with_reducible refine Blk.drew ?_ | with_reducible refine Blk.drewN ?_ _ | (with_reducible refine Blk.far ?_ (by first | (dsimp only; omega) | (simp; omega)) _) | (with_reducible apply Blk.two) | (with_reducible refine Blk.set' ?_ _ _ ?_) | (with_reducible rfl) | rfl))), (by show Blk _ _ _ _; (repeat (first | with_reducible assumption | (with_reducible refine Blk.new' ?_; first | with_reducible rfl | (simp; done)) | with_reducible refine Blk.alloc ?_ _ | with_reducible refine Blk.grow ?_ _ | with_reducible refine Blk.drew ?_ | with_reducible refine Blk.drewN ?_ _ | (with_reducible refine Blk.far ?_ (by first | (dsimp only; omega) | (simp; omega)) _) | (with_reducible apply Blk.two) | (with_reducible refine Blk.set' ?_ _ _ ?_) | (with_reducible rfl) | rfl)))⟩
          case measure => simp [intOf]; omega
        · obtain rfl : vn = m := by omega
          go_wp2_with fail
          clear x0 x1 x2 x3 xf0 xf1 xf2 xf3 xl z0 z1 z2 z3 zf0 zf1 zf2 zf3 zl
          obtain ⟨Z, rfl⟩ : ∃ Z : World, Z = wr := ⟨_, rfl⟩
          have hbZ := hbw
          have gnZ := gn
          have gpZ := gp
          clear hbw gn gp
          go_loopw [7] (fun i wr => ∃ m : Nat, m ≤ cn ∧ i = .int .i64 m ∧ Hid (Below w.heap.size w wr) ∧ Hid (Blk wr w.heap.size 36 #[.bool lf, .slice A1 kn c1, .slice A2 vn c2, .slice A3 cn c3]) ∧ Hid (Blk wr (w.heap.size + 1) 36 #[.bool lf, .slice B1 kn e1, .slice B2 vn e2, .slice B3 cn e3])) (fun i _ => cn - (intOf i).toNat)
          case atStart => exact ⟨0, by omega, rfl, hbZ.out, gnZ.out, gpZ.out⟩
          case round =>
            obtain ⟨m, hm, rfl, hbw, gn, gp⟩ := hrel
            clear hbZ gnZ gpZ
            have x0 := (gn.out).cell 0
            have x1 := (gn.out).cell 1
            have x2 := (gn.out).cell 2
            have x3 := (gn.out).cell 3
            have xf0 := (gn.out).frozen 0
            have xf1 := (gn.out).frozen 1
            have xf2 := (gn.out).frozen 2
            have xf3 := (gn.out).frozen 3
            have xl := (gn.out).lt
            have z0 := (gp.out).cell 0
            have z1 := (gp.out).cell 1
            have z2 := (gp.out).cell 2
            have z3 := (gp.out).cell 3
            have zf0 := (gp.out).frozen 0
            have zf1 := (gp.out).frozen 1
            have zf2 := (gp.out).frozen 2
            have zf3 := (gp.out).frozen 3
            have zl := (gp.out).lt
            by_cases hlt : m < cn
            · obtain ⟨b, o, rfl, hbl, hcl⟩ := (hA3.out.below hbw.out) (by omega)
              obtain ⟨b2, o2, rfl, hbl2, hcl2⟩ := (hB3.out.below hbw.out) (by omega)
              have hc1 : wr.cell? ⟨b, o + m, none⟩ = some (.int .u32 (C m)) := hcl m hlt
              have hc2 : wr.cell? ⟨b2, o2 + m, none⟩ = some (.int .u32 (C m)) := hcl2 m hlt
              clear hcl hcl2
              generalize C m = zz at *
              go_wp2_with fail
              first | (with_reducible refine rgrow2 (by kernel_rfl) (by kernel_rfl) ?_) | (refine rgrow (by kernel_rfl) (by kernel_rfl) ?_)
              repeat (go_big_quiet_step ((fail)))
              refine wpQuiet_nil ?_
              intro dr
              go_wp2_with fail
              go_roundw
              case rel =>
                have t1 := hbw.out
                have t2 := gn.out
                have t3 := gp.out
                exact ⟨m + 1, by omega, by go_num, (by show Below _ _ _; (repeat (first | exact Below.refl _ _ | assumption | refine below_drewN ?_ _ | refine bel_grow ?_ _ | refine Below.drew ?_ | refine bel_alloc ?_ _ | refine bel_set ?_ (by first | exact Nat.le_refl _ | (simp; done) | (simp; omega) | omega) _ | refine bel_trans ?_ (by assumption)))), (by show Blk _ _ _ _; (repeat (first | with_reducible assumption | (with_reducible refine Blk.new' ?_; first | with_reducible rfl | (simp; done)) | with_reducible refine Blk.alloc ?_ _ | with_reducible refine Blk.grow ?_ _ | with_reducible refine Blk.drew ?_ | with_reducible refine Blk.drewN ?_ _ | (with_reducible refine Blk.far ?_ (by first | (dsimp only; omega) | (simp; omega)) _) | (with_reducible apply Blk.two) | (with_reducible refine Blk.set' ?_ _ _ ?_) | (with_reducible rfl) | rfl))), (by show Blk _ _ _ _; (repeat (first | with_reducible assumption | (with_reducible refine Blk.new' ?_; first | with_reducible rfl | (simp; done)) | with_reducible refine Blk.alloc ?_ _ | with_reducible refine Blk.grow ?_ _ | with_reducible refine Blk.drew ?_ | with_reducible refine Blk.drewN ?_ _ | (with_reducible refine Blk.far ?_ (by first | (dsimp only; omega) | (simp; omega)) _) | (with_reducible apply Blk.two) | (with_reducible refine Blk.set' ?_ _ _ ?_) | (with_reducible rfl) | rfl)))⟩
              case measure => simp [intOf]; omega
            · obtain rfl : cn = m := by omega
              go_wp2_with fail
              go_ret
              exact ⟨rfl, hbw.out⟩
end Go.Proofs.Ytbmdnifkjcimcaa
