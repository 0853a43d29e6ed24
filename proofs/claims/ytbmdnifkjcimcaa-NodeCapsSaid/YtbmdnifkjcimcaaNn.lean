/-
  The document's Right, walked.
-/
import Derived.Test.YtbmdnifkjcimcaaNl
namespace Go.Proofs.Ytbmdnifkjcimcaa
set_option linter.unusedVariables false
set_option linter.unusedSimpArgs false
open Go.RowKit

set_option maxRecDepth 8000 in
set_option maxHeartbeats 8000000 in
theorem refright_any (lf : Bool) (A1 A2 A3 : Option Addr) (kn c1 vn c2 cn c3 : Nat) (KL VL : Nat → Nat) (K V : Nat → Nat → Int) (C : Nat → Int) (k v : Int) (w : World) (m1 : kn ≤ 1000000) (m2 : vn ≤ 1000000) (m3 : cn ≤ 1000000) (hL : ∀ i, i < kn → KL i ≤ 1000000) (hKb : ∀ i j, 0 ≤ K i j ∧ K i j < 256)
    (hK : SlIs w A1 kn (sV KL K)) (hV : SlIs w A2 vn (sV VL V)) (hC : SlIs w A3 cn (fun j => .int .u32 (C j))) :
    Calls Try.prog 19 #[.agg #[.bool lf, .slice A1 kn c1, .slice A2 vn c2, .slice A3 cn c3], .int .i64 k, .int .i64 v] w fun r w' => r = .returned (.bool (rightB ⟨lf, kn, KL, K, vn, VL, V, cn, C⟩ k v)) ∧ Below w.heap.size w w' := by
  have HC := Lib.hid (fun w => refcaps_any k v w)
  have HR := fun W (hb : Below w.heap.size w W) => refrises_any A1 kn c1 KL K W m1 hL hKb (hK.below hb)
  have HE : rightB ⟨lf, kn, KL, K, vn, VL, V, cn, C⟩ k v = (!anyB (fun i => ((KL i : Int) != k)) kn && !anyB (fun i => ((VL i : Int) != v)) vn && riseB KL K kn && (if lf = true then decide (cn = 0 ∧ 1 ≤ kn ∧ (kn : Int) ≤ capL k v ∧ vn = kn) else !anyB (fun i => decide (C i < 2)) cn && decide (vn = 0 ∧ 2 ≤ cn ∧ (cn : Int) ≤ capI k v ∧ kn + 1 = cn))) := rfl
  generalize rightB ⟨lf, kn, KL, K, vn, VL, V, cn, C⟩ k v = q at *
  have HXK : ∀ i, Hid ((fun i => ((KL i : Int) != k)) i = ((KL i : Int) != k)) := fun i => Lib.hid rfl
  have HXV : ∀ i, Hid ((fun i => ((VL i : Int) != v)) i = ((VL i : Int) != v)) := fun i => Lib.hid rfl
  have HXC : ∀ i, Hid ((fun i => decide (C i < 2)) i = decide (C i < 2)) := fun i => Lib.hid rfl
  have HXC0 : ∀ i, i < cn → Hid ((fun i => decide (C i < 2)) i = true → 0 < cn) := fun i hi => Lib.hid (fun _ => by omega)
  generalize (fun i => ((KL i : Int) != k)) = xsK at *
  generalize (fun i => ((VL i : Int) != v)) = xsV at *
  generalize (fun i => decide (C i < 2)) = xsC at *
  generalize capL k v = cl at *
  generalize capI k v = ci at *
  generalize riseB KL K kn = rb at *
  replace HE := Lib.hid HE
  replace HR := Lib.hid HR
  replace HXK := Lib.hid HXK
  replace HXV := Lib.hid HXV
  replace HXC := Lib.hid HXC
  replace hK := Lib.hid hK
  replace hV := Lib.hid hV
  replace hC := Lib.hid hC
  clear hL hKb HXC0
  have hb0 := Below.refl w.heap.size w
  go_enter Try.func19, Try.ntmps19
  replace hb0 := Lib.hid hb0
  go_wp2_with fail
  refine (HC.out _).mono ?_
  rintro e w_1 ⟨rfl, hb_1⟩
  have z_1 := hb_1.size
  try simp at z_1
  have t_ := hb0.out
  have hB_1 := bel_eld (w := w) (X := _) (by first | ((repeat (first | with_reducible exact Below.refl _ _ | with_reducible assumption | (with_reducible refine bel_set ?_ (by first | exact Nat.le_refl _ | (simp; done) | (simp; omega) | omega) _) | with_reducible refine bel_grow ?_ _ | with_reducible refine Below.drew ?_ | with_reducible refine below_drewN ?_ _ | with_reducible refine bel_alloc ?_ _ | with_reducible refine bel_trans ?_ (by assumption))); done) | (repeat (first | exact Below.refl _ _ | assumption | refine below_drewN ?_ _ | refine bel_grow ?_ _ | refine Below.drew ?_ | refine bel_alloc ?_ _ | refine bel_set ?_ (by first | exact Nat.le_refl _ | (simp; done) | (simp; omega) | omega) _ | refine bel_trans ?_ (by assumption)))) hb_1
  clear t_
  have g_n : Blk w_1 (w.heap.size) 36 #[.bool lf, .slice A1 kn c1, .slice A2 vn c2, .slice A3 cn c3] := by
    refine Blk.kept ?_ hb_1
    (repeat (first | with_reducible assumption | (with_reducible refine Blk.new' ?_; first | with_reducible rfl | (simp; done)) | with_reducible refine Blk.alloc ?_ _ | with_reducible refine Blk.grow ?_ _ | with_reducible refine Blk.drew ?_ | with_reducible refine Blk.drewN ?_ _ | (with_reducible refine Blk.far ?_ (by first | (dsimp only; omega) | (simp; omega)) _) | (with_reducible apply Blk.two) | (with_reducible refine Blk.set' ?_ _ _ ?_) | (with_reducible rfl) | rfl))
  clear hb0 hb_1
  have f_n := g_n
  clear g_n
  have n_0 : w_1.cell? ⟨w.heap.size, 0, none⟩ = some (.bool lf) := (f_n).cell 0
  have n_1 : w_1.cell? ⟨w.heap.size, 1, none⟩ = some (.slice A1 kn c1) := (f_n).cell 1
  have n_2 : w_1.cell? ⟨w.heap.size, 2, none⟩ = some (.slice A2 vn c2) := (f_n).cell 2
  have n_3 : w_1.cell? ⟨w.heap.size, 3, none⟩ = some (.slice A3 cn c3) := (f_n).cell 3
  have n_f0 := (f_n).frozen 0
  have n_f1 := (f_n).frozen 1
  have n_f2 := (f_n).frozen 2
  have n_f3 := (f_n).frozen 3
  have n_l := (f_n).lt
  replace f_n := Lib.hid f_n
  replace hB_1 := Lib.hid hB_1
  have sK := Lib.hid (hK.out.below hB_1.out)
  have sV' := Lib.hid (hV.out.below hB_1.out)
  have sC := Lib.hid (hC.out.below hB_1.out)
  clear hK hV hC
  go_wp2_with fail
  go_loopw [9] (fun i wr => ∃ m : Nat, m ≤ kn ∧ i = .int .i64 m ∧ Hid (∀ j, j < m → xsK j = false) ∧ w_1 = wr) (fun i _ => kn - (intOf i).toNat)
  case atStart => exact ⟨0, by omega, rfl, fun j h => by omega, rfl⟩
  case round =>
    obtain ⟨m, hm, rfl, hx, rfl⟩ := hrel
    by_cases hlt : m < kn
    · obtain ⟨b, o, rfl, hbl, hcl⟩ := sK.out (by omega)
      have hc : w_1.cell? ⟨b, o + m, none⟩ = some (.string (strF (K m) (KL m))) := hcl m hlt
      have es : (strF (K m) (KL m)).size = KL m := strF_size _ _
      clear hcl
      have hv := (HXK.out m).out
      generalize strF (K m) (KL m) = st at *
      generalize KL m = lm at *
      cases hz : ((lm : Int) != k)
      · have hxk : xsK m = false := hv.trans hz
        replace hxk := Lib.hid hxk
        clear hv
        go_wp2_with fail
        go_roundw
        case rel => exact ⟨m + 1, by omega, by go_num, fun j hj => by by_cases e : j = m; (subst e; exact hxk.out); exact hx.out j (by omega), trivial⟩
        case measure => simp [intOf]; omega
      · have hxk : xsK m = true := hv.trans hz
        have hany := Lib.hid (anyB_true hxk hlt)
        clear hv hxk
        go_wp2_with fail
        go_ret
        exact ⟨ret_b (by rw [HE.out, hany.out]; simp), hB_1.out⟩
    · obtain rfl : kn = m := by omega
      have hxK := hx
      clear hx
      go_wp2_with fail
      go_loopw [10] (fun i wr => ∃ m : Nat, m ≤ vn ∧ i = .int .i64 m ∧ Hid (∀ j, j < m → xsV j = false) ∧ w_1 = wr) (fun i _ => vn - (intOf i).toNat)
      case atStart => exact ⟨0, by omega, rfl, fun j h => by omega, rfl⟩
      case round =>
        obtain ⟨m, hm, rfl, hx, rfl⟩ := hrel
        by_cases hlt : m < vn
        · obtain ⟨b, o, rfl, hbl, hcl⟩ := sV'.out (by omega)
          have hc : w_1.cell? ⟨b, o + m, none⟩ = some (.string (strF (V m) (VL m))) := hcl m hlt
          have es : (strF (V m) (VL m)).size = VL m := strF_size _ _
          clear hcl
          have hv := (HXV.out m).out
          generalize strF (V m) (VL m) = st at *
          generalize VL m = lm at *
          cases hz : ((lm : Int) != v)
          · have hxk : xsV m = false := hv.trans hz
            replace hxk := Lib.hid hxk
            clear hv
            go_wp2_with fail
            go_roundw
            case rel => exact ⟨m + 1, by omega, by go_num, fun j hj => by by_cases e : j = m; (subst e; exact hxk.out); exact hx.out j (by omega), trivial⟩
            case measure => simp [intOf]; omega
          · have hxk : xsV m = true := hv.trans hz
            have hany := Lib.hid (anyB_true hxk hlt)
            clear hv hxk
            go_wp2_with fail
            go_ret
            exact ⟨ret_b (by rw [HE.out, hany.out]; simp), hB_1.out⟩
        · obtain rfl : vn = m := by omega
          have hxV := hx
          clear hx
          go_wp2_with fail
          go_loopw [11] (fun i wr => ∃ m : Nat, m ≤ cn ∧ i = .int .i64 m ∧ Hid (∀ j, j < m → xsC j = false) ∧ w_1 = wr) (fun i _ => cn - (intOf i).toNat)
          case atStart => exact ⟨0, by omega, rfl, fun j h => by omega, rfl⟩
          case round =>
            obtain ⟨m, hm, rfl, hx, rfl⟩ := hrel
            by_cases hlt : m < cn
            · obtain ⟨b, o, rfl, hbl, hcl⟩ := sC.out (by omega)
              have hc : w_1.cell? ⟨b, o + m, none⟩ = some (.int .u32 (C m)) := hcl m hlt
              clear hcl
              have hv := (HXC.out m).out
              generalize C m = z at *
              cases hz : decide (z < 2)
              · have hxk : xsC m = false := hv.trans hz
                replace hxk := Lib.hid hxk
                clear hv
                go_wp2_with fail
                go_roundw
                case rel => exact ⟨m + 1, by omega, by go_num, fun j hj => by by_cases e : j = m; (subst e; exact hxk.out); exact hx.out j (by omega), trivial⟩
                case measure => simp [intOf]; omega
              · have hxk : xsC m = true := hv.trans hz
                have hany := Lib.hid (anyB_true hxk hlt)
                clear hv hxk
                go_wp2_with fail
                go_ret
                exact ⟨ret_b (by rw [HE.out, hany.out]; have : cn ≠ 0 := (by omega); cases lf <;> simp [this]), hB_1.out⟩
            · obtain rfl : cn = m := by omega
              have hxC := hx
              clear hx
              go_wp2_with fail
              refine (HR.out _ hB_1.out).mono ?_
              rintro e w_2 ⟨rfl, hb_2⟩
              have z_2 := hb_2.size
              try simp at z_2
              have t_ := hB_1.out
              have hB_2 := bel_eld (w := w) (X := _) (by first | ((repeat (first | with_reducible exact Below.refl _ _ | with_reducible assumption | (with_reducible refine bel_set ?_ (by first | exact Nat.le_refl _ | (simp; done) | (simp; omega) | omega) _) | with_reducible refine bel_grow ?_ _ | with_reducible refine Below.drew ?_ | with_reducible refine below_drewN ?_ _ | with_reducible refine bel_alloc ?_ _ | with_reducible refine bel_trans ?_ (by assumption))); done) | (repeat (first | exact Below.refl _ _ | assumption | refine below_drewN ?_ _ | refine bel_grow ?_ _ | refine Below.drew ?_ | refine bel_alloc ?_ _ | refine bel_set ?_ (by first | exact Nat.le_refl _ | (simp; done) | (simp; omega) | omega) _ | refine bel_trans ?_ (by assumption)))) hb_2
              clear t_
              have t_n := f_n.out
              have g_n : Blk w_2 (w.heap.size) 36 #[.bool lf, .slice A1 kn c1, .slice A2 vn c2, .slice A3 cn c3] := by
                refine Blk.kept ?_ hb_2
                (repeat (first | with_reducible assumption | (with_reducible refine Blk.new' ?_; first | with_reducible rfl | (simp; done)) | with_reducible refine Blk.alloc ?_ _ | with_reducible refine Blk.grow ?_ _ | with_reducible refine Blk.drew ?_ | with_reducible refine Blk.drewN ?_ _ | (with_reducible refine Blk.far ?_ (by first | (dsimp only; omega) | (simp; omega)) _) | (with_reducible apply Blk.two) | (with_reducible refine Blk.set' ?_ _ _ ?_) | (with_reducible rfl) | rfl))
              clear f_n n_l n_0 n_1 n_2 n_3 n_f0 n_f1 n_f2 n_f3 t_n hB_1 hb_2
              have f_n := g_n
              clear g_n
              have n_0 : w_2.cell? ⟨w.heap.size, 0, none⟩ = some (.bool lf) := (f_n).cell 0
              have n_1 : w_2.cell? ⟨w.heap.size, 1, none⟩ = some (.slice A1 kn c1) := (f_n).cell 1
              have n_2 : w_2.cell? ⟨w.heap.size, 2, none⟩ = some (.slice A2 vn c2) := (f_n).cell 2
              have n_3 : w_2.cell? ⟨w.heap.size, 3, none⟩ = some (.slice A3 cn c3) := (f_n).cell 3
              have n_f0 := (f_n).frozen 0
              have n_f1 := (f_n).frozen 1
              have n_f2 := (f_n).frozen 2
              have n_f3 := (f_n).frozen 3
              have n_l := (f_n).lt
              replace f_n := Lib.hid f_n
              replace hB_2 := Lib.hid hB_2
              cases rb
              · go_wp2_with fail
                go_ret
                exact ⟨ret_b (by rw [HE.out]; simp), hB_2.out⟩
              · cases lf
                · skip
                  cases z0 : ((vn : Int) == 0)
                  · go_wp2_with fail
                    go_ret
                    exact ⟨ret_b (by have e0 := z0; simp at e0; rw [HE.out, anyB_false hxK.out, anyB_false hxV.out, anyB_false hxC.out]; simp; omega), hB_2.out⟩
                  · skip
                    cases z1 : decide ((cn : Int) > 1)
                    · go_wp2_with fail
                      go_ret
                      exact ⟨ret_b (by have e0 := z0; simp at e0; have e1 := z1; simp at e1; rw [HE.out, anyB_false hxK.out, anyB_false hxV.out, anyB_false hxC.out]; simp; omega), hB_2.out⟩
                    · skip
                      cases z2 : decide ((cn : Int) ≤ ci)
                      · go_wp2_with fail
                        go_ret
                        exact ⟨ret_b (by have e0 := z0; simp at e0; have e1 := z1; simp at e1; have e2 := z2; simp at e2; rw [HE.out, anyB_false hxK.out, anyB_false hxV.out, anyB_false hxC.out]; simp; omega), hB_2.out⟩
                      · skip
                        cases z3 : ((kn : Int) + 1 == cn)
                        · go_wp2_with fail
                          go_ret
                          exact ⟨ret_b (by have e0 := z0; simp at e0; have e1 := z1; simp at e1; have e2 := z2; simp at e2; have e3 := z3; simp at e3; rw [HE.out, anyB_false hxK.out, anyB_false hxV.out, anyB_false hxC.out]; simp; omega), hB_2.out⟩
                        · skip
                          go_wp2_with fail
                          go_ret
                          exact ⟨ret_b (by have e0 := z0; simp at e0; have e1 := z1; simp at e1; have e2 := z2; simp at e2; have e3 := z3; simp at e3; rw [HE.out, anyB_false hxK.out, anyB_false hxV.out, anyB_false hxC.out]; simp; omega), hB_2.out⟩
                · skip
                  cases z0 : ((cn : Int) == 0)
                  · go_wp2_with fail
                    go_ret
                    exact ⟨ret_b (by have e0 := z0; simp at e0; rw [HE.out, anyB_false hxK.out, anyB_false hxV.out, anyB_false hxC.out]; simp; omega), hB_2.out⟩
                  · skip
                    cases z1 : decide (0 < kn)
                    · go_wp2_with fail
                      go_ret
                      exact ⟨ret_b (by have e0 := z0; simp at e0; have e1 := z1; simp at e1; rw [HE.out, anyB_false hxK.out, anyB_false hxV.out, anyB_false hxC.out]; simp; omega), hB_2.out⟩
                    · skip
                      cases z2 : decide ((kn : Int) ≤ cl)
                      · go_wp2_with fail
                        go_ret
                        exact ⟨ret_b (by have e0 := z0; simp at e0; have e1 := z1; simp at e1; have e2 := z2; simp at e2; rw [HE.out, anyB_false hxK.out, anyB_false hxV.out, anyB_false hxC.out]; simp; omega), hB_2.out⟩
                      · skip
                        cases z3 : ((vn : Int) == kn)
                        · go_wp2_with fail
                          go_ret
                          exact ⟨ret_b (by have e0 := z0; simp at e0; have e1 := z1; simp at e1; have e2 := z2; simp at e2; have e3 := z3; simp at e3; rw [HE.out, anyB_false hxK.out, anyB_false hxV.out, anyB_false hxC.out]; simp; omega), hB_2.out⟩
                        · skip
                          go_wp2_with fail
                          go_ret
                          exact ⟨ret_b (by have e0 := z0; simp at e0; have e1 := z1; simp at e1; have e2 := z2; simp at e2; have e3 := z3; simp at e3; rw [HE.out, anyB_false hxK.out, anyB_false hxV.out, anyB_false hxC.out]; simp; omega), hB_2.out⟩
end Go.Proofs.Ytbmdnifkjcimcaa
