/-
  node.Right, walked.
-/
import Derived.Test.YtbmdnifkjcimcaaNb
import Derived.Test.YtbmdnifkjcimcaaNc
import Derived.Deep.DeepCutAuto
namespace Go.Proofs.Ytbmdnifkjcimcaa
set_option linter.unusedVariables false
set_option linter.unusedSimpArgs false
open Go.RowKit

/-- a node's slices, in memory -/
def NdIs (w : World) (KA VA CA : Option Addr) (d : Nd) : Prop :=
  RsIs w KA d.kn d.KL d.K ∧ RsIs w VA d.vn d.VL d.V ∧ SlIs w CA d.cn (fun j => .int .u32 (d.C j)) ∧ d.kn ≤ 1000000 ∧ d.vn ≤ 1000000 ∧ d.cn ≤ 1000000
theorem NdIs.below {w w' : World} {KA VA CA : Option Addr} {d : Nd} (h : NdIs w KA VA CA d) (hb : Below w.heap.size w w') : NdIs w' KA VA CA d :=
  ⟨h.1.below hb, h.2.1.below hb, h.2.2.1.below hb, h.2.2.2⟩
theorem right1_any (z : Int) (w : World) : Calls Try.prog 26 #[.int .u32 z] w fun r w' => r = .returned (.bool (decide (z < 2))) ∧ w' = w := by
  go_enter Try.func26, Try.ntmps26
  go_wp2
  go_ret
  exact ⟨rfl, rfl⟩
set_option maxHeartbeats 1000000 in
theorem idxC_any (A : Option Addr) (n c : Nat) (C : Nat → Int) (w : World) (hn : n ≤ 1000000) (hs : SlIs w A n (fun j => .int .u32 (C j))) :
    Calls Try.prog 41 #[.slice A n c, .func (Fn.func 26) #[] #[]] w fun r w' => IdxPost (fun i => decide (C i < 2)) n r ∧ Below w.heap.size w w' := by
  have HX : ∀ i, Hid ((fun i => decide (C i < 2)) i = decide (C i < 2)) := fun i => Lib.hid rfl
  generalize (fun i => decide (C i < 2)) = xs at *
  replace HX := Lib.hid HX
  replace hs := Lib.hid hs
  go_enter Try.func41, Try.ntmps41
  go_wp2
  go_loopw [8] (fun i wr => ∃ k : Nat, k ≤ n ∧ i = .int .i64 k ∧ Hid (∀ j, j < k → xs j = false) ∧ Hid (Below w.heap.size w wr)) (fun i _ => n - (intOf i).toNat)
  case atStart => exact ⟨0, by omega, rfl, fun j h => by omega, Below.refl _ _⟩
  case round =>
    obtain ⟨k, hk, rfl, hx, hb⟩ := hrel
    by_cases hlt : k < n
    · obtain ⟨b, o, rfl, hbl, hcl⟩ := (hs.out.below hb.out) (by omega)
      have hc : wr.cell? ⟨b, o + k, none⟩ = some (.int .u32 (C k)) := hcl k hlt
      clear hcl
      have hv := (HX.out k).out
      generalize C k = z at *
      cases hz : decide (z < 2)
      · have hxk : xs k = false := hv.trans hz
        replace hxk := Lib.hid hxk
        replace hz := Lib.hid hz
        go_wp2_with fail
        refine (right1_any z wr).mono ?_
        rintro e w2 ⟨rfl, rfl⟩
        rw [hz.out]
        go_wp2
        go_roundw
        case rel => exact ⟨k + 1, by omega, by go_num, fun j hj => by by_cases e : j = k; (subst e; exact hxk.out); exact hx.out j (by omega), hb.out⟩
        case measure => simp [intOf]; omega
      · have hxk : xs k = true := hv.trans hz
        replace hxk := Lib.hid hxk
        replace hz := Lib.hid hz
        go_wp2_with fail
        refine (right1_any z wr).mono ?_
        rintro e w2 ⟨rfl, rfl⟩
        rw [hz.out]
        go_wp2
        go_ret
        exact ⟨⟨k, rfl, by rw [anyB_true hxk.out hlt]; simp⟩, hb.out⟩
    · obtain rfl : k = n := by omega
      go_wp2
      go_ret
      exact ⟨⟨-1, rfl, by rw [anyB_false hx.out]; decide⟩, hb.out⟩
set_option maxHeartbeats 1000000 in
theorem conC_any (A : Option Addr) (n c : Nat) (C : Nat → Int) (w : World) (hn : n ≤ 1000000) (hs : SlIs w A n (fun j => .int .u32 (C j))) :
    Calls Try.prog 25 #[.slice A n c, .func (Fn.func 26) #[] #[]] w fun r w' => r = .returned (.bool (anyB (fun i => decide (C i < 2)) n)) ∧ Below w.heap.size w w' := by
  have HI := Lib.hid (idxC_any A n c C w hn hs)
  clear hs
  go_enter Try.func25, Try.ntmps25
  go_wp2_with fail
  refine HI.out.mono ?_
  rintro e w2 ⟨⟨i, rfl, hi⟩, hb2⟩
  replace hi := Lib.hid hi
  go_wp2
  go_ret
  exact ⟨(show Ending.returned (Value.bool (decide (0 ≤ i))) = Ending.returned (Value.bool (anyB (fun i => decide (C i < 2)) n)) by rw [hi.out]), hb2⟩
theorem ret_b {x y : Bool} (h : x = y) : Ending.returned (.bool x) = .returned (.bool y) := by rw [h]
set_option maxRecDepth 8000 in
set_option maxHeartbeats 4000000 in
theorem right_any (lf : Bool) (KA VA CA : Option Addr) (kn kc vn vc cn cc : Nat) (KL VL : Nat → Nat) (K V : Nat → Nat → Int) (C : Nat → Int) (k v : Int) (w : World) (hN : NdIs w KA VA CA ⟨lf, kn, KL, K, vn, VL, V, cn, C⟩) : Calls Try.prog 10 #[.agg #[.bool lf, .slice KA kn kc, .slice VA vn vc, .slice CA cn cc], .int .i64 k, .int .i64 v] w fun r w' => r = .returned (.bool (rightB ⟨lf, kn, KL, K, vn, VL, V, cn, C⟩ k v)) ∧ Below w.heap.size w w' := by
  obtain ⟨n1, n2, n3, m1, m2, m3⟩ := hN
  dsimp only at n1 n2 n3 m1 m2 m3
  have HC := Lib.hid (fun w => caps_any k v w)
  have HK := Lib.hid (fun W (hb : Below w.heap.size w W) => long_any KA kn kc k KL K W m1 (n1.below hb))
  have HV := Lib.hid (fun W (hb : Below w.heap.size w W) => long_any VA vn vc v VL V W m2 (n2.below hb))
  have HR := Lib.hid (fun W (hb : Below w.heap.size w W) => rises_any KA kn kc KL K W m1 (n1.below hb))
  have HA := Lib.hid (fun W (hb : Below w.heap.size w W) => conC_any CA cn cc C W m3 (n3.below hb))
  clear n1 n2 n3
  have HE : rightB ⟨lf, kn, KL, K, vn, VL, V, cn, C⟩ k v = (longB KL kn k && longB VL vn v && riseB KL K kn && (if lf = true then decide (cn = 0 ∧ 1 ≤ kn ∧ (kn : Int) ≤ capL k v ∧ vn = kn) else !anyB (fun i => decide (C i < 2)) cn && decide (vn = 0 ∧ 2 ≤ cn ∧ (cn : Int) ≤ capI k v ∧ kn + 1 = cn))) := rfl
  generalize rightB ⟨lf, kn, KL, K, vn, VL, V, cn, C⟩ k v = q at *
  generalize longB KL kn k = bK at *
  generalize longB VL vn v = bV at *
  generalize riseB KL K kn = bR at *
  generalize anyB (fun i => decide (C i < 2)) cn = bA at *
  generalize capL k v = cl at *
  generalize capI k v = ci at *
  obtain ⟨x, hx⟩ : ∃ x, (bK && bV && bR) = x := ⟨_, rfl⟩
  rw [hx] at HE
  replace HE := Lib.hid HE
  replace hx := Lib.hid hx
  have hb0 := Below.refl w.heap.size w
  go_enter Try.func10, Try.ntmps10
  replace hb0 := Lib.hid hb0
  go_wp2_with fail
  refine (HC.out _).mono ?_
  rintro e w_1 ⟨rfl, hb_1⟩
  have z_1 := hb_1.size
  try simp at z_1
  have t_ := hb0.out
  have hB_1 := bel_eld (w := w) (X := _) (by first | ((repeat (first | with_reducible exact Below.refl _ _ | with_reducible assumption | (with_reducible refine bel_set ?_ (by first | exact Nat.le_refl _ | (simp; done) | (simp; omega) | omega) _) | with_reducible refine bel_grow ?_ _ | with_reducible refine Below.drew ?_ | with_reducible refine below_drewN ?_ _ | with_reducible refine bel_alloc ?_ _ | with_reducible refine bel_trans ?_ (by assumption))); done) | (repeat (first | exact Below.refl _ _ | assumption | refine below_drewN ?_ _ | refine bel_grow ?_ _ | refine Below.drew ?_ | refine bel_alloc ?_ _ | refine bel_set ?_ (by first | exact Nat.le_refl _ | (simp; done) | (simp; omega) | omega) _ | refine bel_trans ?_ (by assumption)))) hb_1
  clear t_
  have g_n : Blk w_1 (w.heap.size) 28 #[.bool lf, .slice KA kn kc, .slice VA vn vc, .slice CA cn cc] := by
    refine Blk.kept ?_ hb_1
    (repeat (first | with_reducible assumption | (with_reducible refine Blk.new' ?_; first | with_reducible rfl | (simp; done)) | with_reducible refine Blk.alloc ?_ _ | with_reducible refine Blk.grow ?_ _ | with_reducible refine Blk.drew ?_ | with_reducible refine Blk.drewN ?_ _ | (with_reducible refine Blk.far ?_ (by first | (dsimp only; omega) | (simp; omega)) _) | (with_reducible apply Blk.two) | (with_reducible refine Blk.set' ?_ _ _ ?_) | (with_reducible rfl) | rfl))
  clear hb0 hb_1
  have f_n := g_n
  clear g_n
  have n_0 : w_1.cell? ⟨w.heap.size, 0, none⟩ = some (.bool lf) := (f_n).cell 0
  have n_1 : w_1.cell? ⟨w.heap.size, 1, none⟩ = some (.slice KA kn kc) := (f_n).cell 1
  have n_2 : w_1.cell? ⟨w.heap.size, 2, none⟩ = some (.slice VA vn vc) := (f_n).cell 2
  have n_3 : w_1.cell? ⟨w.heap.size, 3, none⟩ = some (.slice CA cn cc) := (f_n).cell 3
  have n_f0 := (f_n).frozen 0
  have n_f1 := (f_n).frozen 1
  have n_f2 := (f_n).frozen 2
  have n_f3 := (f_n).frozen 3
  have n_l := (f_n).lt
  replace f_n := Lib.hid f_n
  replace hB_1 := Lib.hid hB_1
  go_upto_region 2 with fail
  go_cut [32] (fun s wx => s = .bool (!x) ∧ Below w_1.heap.size w_1 wx)
  case first =>
    cases bK <;> cases bV <;> cases bR
    all_goals (
      go_wp2_with (first | (go_at_call 23; first | ((with_reducible refine (grow_call (HK.out _ (bel_eld hB_1.out (grow_below _ _)))).mono ?_); rintro e9 w9 ⟨rfl, d9, rfl⟩) | ((with_reducible refine (gro (HK.out _ hB_1.out)).mono ?_); rintro e9 w9 ⟨rfl, d9, rfl⟩) | ((with_reducible refine (grow_call (HV.out _ (bel_eld hB_1.out (grow_below _ _)))).mono ?_); rintro e9 w9 ⟨rfl, d9, rfl⟩)) | (go_at_call 24; (with_reducible refine (grow_call (HR.out _ (bel_eld hB_1.out (grow_below _ _)))).mono ?_); rintro e9 w9 ⟨rfl, d9, rfl⟩))
      go_meet
      exact ⟨by rw [← hx.out]; rfl, by (repeat (first | exact Below.refl _ _ | assumption | refine below_drewN ?_ _ | refine bel_grow ?_ _ | refine Below.drew ?_ | refine bel_alloc ?_ _ | refine bel_set ?_ (by first | exact Nat.le_refl _ | (simp; done) | (simp; omega) | omega) _ | refine bel_trans ?_ (by assumption)))⟩)
  case rest =>
    obtain ⟨rfl, hb2⟩ := hcut
    have f_n2 := f_n.out.kept hb2
    have hB := bel_eld hB_1.out hb2
    clear f_n n_l n_0 n_1 n_2 n_3 n_f0 n_f1 n_f2 n_f3 hB_1 hb2 HC HK HV HR
    have n0 := (f_n2).cell 0
    have n1 := (f_n2).cell 1
    have n2 := (f_n2).cell 2
    have n3 := (f_n2).cell 3
    have nf0 := (f_n2).frozen 0
    have nf1 := (f_n2).frozen 1
    have nf2 := (f_n2).frozen 2
    have nf3 := (f_n2).frozen 3
    have nl := (f_n2).lt
    clear f_n2
    clear hx
    replace HA := Lib.hid (HA.out wc hB)
    replace hB := Lib.hid hB
    cases x
    · go_wp2_with fail
      go_ret
      exact ⟨ret_b (by rw [HE.out]; rfl), hB.out⟩
    · cases lf
      · go_wp2_with fail
        refine HA.out.mono ?_
        rintro e9 w9 ⟨rfl, hb9⟩
        have z_ := hb9.size
        have p0 := keepc hb9 n0
        have p1 := keepc hb9 n1
        have p2 := keepc hb9 n2
        have p3 := keepc hb9 n3
        clear n0 n1 n2 n3
        have hW := Lib.hid (bel_eld hB.out hb9)
        clear hb9
        cases bA
        · by_cases c1 : vn = 0
          · have d1 : ((vn : Int) == 0) = true := by simp [c1]
            by_cases c2 : 2 ≤ cn
            · have d2 : decide ((cn : Int) ≥ 2) = true := decide_eq_true (by omega)
              by_cases c3 : (cn : Int) ≤ ci
              · have d3 : decide ((cn : Int) ≤ ci) = true := decide_eq_true c3
                have e0 : 0 ≤ (cn : Int) - 1 := by omega
                by_cases c4 : kn + 1 = cn
                · have d4 : ((kn : Int) == (cn : Int) - 1) = true := by simp; omega
                  have c1h := Lib.hid c1
                  clear c1
                  have c4h := Lib.hid c4
                  clear c4
                  go_wp2_with fail
                  go_ret
                  exact ⟨ret_b (by (try have c1 := c1h.out); (try have c4 := c4h.out); have t_ := HE.out; simp at t_; rw [t_]; simp; omega), hW.out⟩
                · have d4 : ((kn : Int) == (cn : Int) - 1) = false := by simp; omega
                  have c1h := Lib.hid c1
                  clear c1
                  go_wp2_with fail
                  go_ret
                  exact ⟨ret_b (by (try have c1 := c1h.out); (try have c4 := c4h.out); have t_ := HE.out; simp at t_; rw [t_]; simp; omega), hW.out⟩
              · have d3 : decide ((cn : Int) ≤ ci) = false := decide_eq_false c3
                have c1h := Lib.hid c1
                clear c1
                go_wp2_with fail
                go_ret
                exact ⟨ret_b (by (try have c1 := c1h.out); (try have c4 := c4h.out); have t_ := HE.out; simp at t_; rw [t_]; simp; omega), hW.out⟩
            · have d2 : decide ((cn : Int) ≥ 2) = false := decide_eq_false (by omega)
              have c1h := Lib.hid c1
              clear c1
              go_wp2_with fail
              go_ret
              exact ⟨ret_b (by (try have c1 := c1h.out); (try have c4 := c4h.out); have t_ := HE.out; simp at t_; rw [t_]; simp; omega), hW.out⟩
          · have d1 : ((vn : Int) == 0) = false := by simp; omega
            go_wp2_with fail
            go_ret
            exact ⟨ret_b (by (try have c1 := c1h.out); (try have c4 := c4h.out); have t_ := HE.out; simp at t_; rw [t_]; simp; omega), hW.out⟩
        · go_wp2_with fail
          go_ret
          exact ⟨ret_b (by rw [HE.out]; rfl), hW.out⟩
      · clear HA
        by_cases c1 : cn = 0
        · have d1 : ((cn : Int) == 0) = true := by simp [c1]
          by_cases c2 : 1 ≤ kn
          · have d2 : decide ((kn : Int) ≥ 1) = true := decide_eq_true (by omega)
            by_cases c3 : (kn : Int) ≤ cl
            · have d3 : decide ((kn : Int) ≤ cl) = true := decide_eq_true c3
              by_cases c4 : vn = kn
              · have d4 : ((vn : Int) == (kn : Int)) = true := by simp [c4]
                have c1h := Lib.hid c1
                clear c1
                have c4h := Lib.hid c4
                clear c4
                go_wp2_with fail
                go_ret
                exact ⟨ret_b (by (try have c1 := c1h.out); (try have c4 := c4h.out); have t_ := HE.out; simp at t_; rw [t_]; simp; omega), hB.out⟩
              · have d4 : ((vn : Int) == (kn : Int)) = false := by simp; omega
                have c1h := Lib.hid c1
                clear c1
                go_wp2_with fail
                go_ret
                exact ⟨ret_b (by (try have c1 := c1h.out); (try have c4 := c4h.out); have t_ := HE.out; simp at t_; rw [t_]; simp; omega), hB.out⟩
            · have d3 : decide ((kn : Int) ≤ cl) = false := decide_eq_false c3
              have c1h := Lib.hid c1
              clear c1
              go_wp2_with fail
              go_ret
              exact ⟨ret_b (by (try have c1 := c1h.out); (try have c4 := c4h.out); have t_ := HE.out; simp at t_; rw [t_]; simp; omega), hB.out⟩
          · have d2 : decide ((kn : Int) ≥ 1) = false := decide_eq_false (by omega)
            have c1h := Lib.hid c1
            clear c1
            go_wp2_with fail
            go_ret
            exact ⟨ret_b (by (try have c1 := c1h.out); (try have c4 := c4h.out); have t_ := HE.out; simp at t_; rw [t_]; simp; omega), hB.out⟩
        · have d1 : ((cn : Int) == 0) = false := by simp; omega
          go_wp2_with fail
          go_ret
          exact ⟨ret_b (by (try have c1 := c1h.out); (try have c4 := c4h.out); have t_ := HE.out; simp at t_; rw [t_]; simp; omega), hB.out⟩
end Go.Proofs.Ytbmdnifkjcimcaa
