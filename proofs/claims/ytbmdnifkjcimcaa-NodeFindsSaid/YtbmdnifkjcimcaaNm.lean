/-
  NodeFinds, walked.
-/
import Derived.Test.YtbmdnifkjcimcaaNl
import Derived.Test.YtbmdnifkjcimcaaNh
namespace Go.Proofs.Ytbmdnifkjcimcaa
set_option linter.unusedVariables false
set_option linter.unusedSimpArgs false
open Go.RowKit

theorem place_ok (lf : Bool) (KA Y VA CA : Option Addr) (kn kc l lc vn vc cn cc : Nat) (KL : Nat → Nat) (K : Nat → Nat → Int) (y : Nat → Int) (w : World) (hn : kn ≤ 1000000) (hK : RsIs w KA kn KL K) (hY : SlIs w Y l (yV y)) :
    Calls Try.prog 13 #[.agg #[.bool lf, .slice KA kn kc, .slice VA vn vc, .slice CA cn cc], .slice Y l lc] w fun r w' => ∃ (i : Nat) (ok : Bool), i ≤ kn ∧ Hid ((i = 0 ∨ 0 < cmpK y l KL K (i - 1)) ∧ (i = kn ∨ cmpK y l KL K i ≤ 0) ∧ (decide (i < kn) && (cmpK y l KL K i == 0)) = ok) ∧ r = .returned (.tuple #[.int .i64 i, .bool ok]) ∧ Below w.heap.size w w' := by
  refine (place_any lf KA Y kn kc l lc _ _ ⟨_, _, _, rfl⟩ ⟨_, _, _, rfl⟩ KL K y w hn hK hY).mono ?_
  rintro r w' ⟨⟨i, h1, h2, h3, rfl⟩, hb⟩
  exact ⟨i, _, h1, ⟨h2, h3, rfl⟩, rfl, hb⟩
theorem kid_ok (lf : Bool) (KA Y VA CA : Option Addr) (kn kc l lc vn vc cn cc : Nat) (KL : Nat → Nat) (K : Nat → Nat → Int) (y : Nat → Int) (w : World) (hn : kn ≤ 1000000) (hK : RsIs w KA kn KL K) (hY : SlIs w Y l (yV y)) :
    Calls Try.prog 14 #[.agg #[.bool lf, .slice KA kn kc, .slice VA vn vc, .slice CA cn cc], .slice Y l lc] w fun r w' => ∃ i : Nat, i ≤ kn ∧ Hid ((i = 0 ∨ decide (cmpK y l KL K (i - 1) < 0) = false) ∧ (i = kn ∨ decide (cmpK y l KL K i < 0) = true)) ∧ r = .returned (.int .i64 i) ∧ Below w.heap.size w w' := by
  refine (kid_any lf KA Y kn kc l lc _ _ ⟨_, _, _, rfl⟩ ⟨_, _, _, rfl⟩ KL K y w hn hK hY).mono ?_
  rintro r w' ⟨⟨i, h1, h2, h3, rfl⟩, hb⟩
  exact ⟨i, h1, ⟨h2, h3⟩, rfl, hb⟩
set_option maxRecDepth 8000 in
set_option maxHeartbeats 2000000 in
theorem nodeFinds_far (lf : Bool) (KA VA CA : Option Addr) (kn kc vn vc cn cc : Nat) (KL VL : Nat → Nat) (K V : Nat → Nat → Int) (C : Nat → Int) (Y : Option Addr) (l lc : Nat) (w : World) (m1 : kn ≤ maxLen) (m2 : vn ≤ maxLen) (m3 : cn ≤ maxLen) (m4 : l ≤ maxLen) (hK : RsIs w KA kn KL K) (hV : RsIs w VA vn VL V) (h : greatB ⟨lf, kn, KL, K, vn, VL, V, cn, C⟩ = true ∨ 200 < l) :
    Calls Try.prog 4 #[.agg #[.bool lf, .slice KA kn kc, .slice VA vn vc, .slice CA cn cc], .slice Y l lc] w fun r w' => r = .returned (.bool true) ∧ Below w.heap.size w w' := by
  have HG := fun W (hb : Below w.heap.size w W) => great_any lf KA VA CA kn kc vn vc cn cc KL VL K V C W m1 m2 m3 (hK.below hb) (hV.below hb)
  have RX := Lib.hid (fun w => nfixed_any w)
  clear hK hV
  unfold maxLen at m4
  cases hq : greatB ⟨lf, kn, KL, K, vn, VL, V, cn, C⟩
  · have h2 : 200 < l := by
      rcases h with h | h
      · rw [hq] at h; cases h
      · exact h
    rw [hq] at HG
    replace HG := Lib.hid HG
    have d1 : decide ((l : Int) > 200) = true := decide_eq_true (by omega)
    clear hq h
    have hb0 := Below.refl w.heap.size w
    go_enter Try.func4, Try.ntmps4
    replace hb0 := Lib.hid hb0
    go_wp2_with fail
    refine (HG.out _ (bel_alloc (Below.refl _ _) _)).mono ?_
    rintro e w_1 ⟨rfl, hb_1⟩
    have z_1 := hb_1.size
    try simp at z_1
    have t_ := hb0.out
    have hB_1 := bel_eld (w := w) (X := _) (by first | ((repeat (first | with_reducible exact Below.refl _ _ | with_reducible assumption | (with_reducible refine bel_set ?_ (by first | exact Nat.le_refl _ | (simp; done) | (simp; omega) | omega) _) | with_reducible refine bel_grow ?_ _ | with_reducible refine Below.drew ?_ | with_reducible refine below_drewN ?_ _ | with_reducible refine bel_alloc ?_ _ | with_reducible refine bel_trans ?_ (by assumption))); done) | (repeat (first | exact Below.refl _ _ | assumption | refine below_drewN ?_ _ | refine bel_grow ?_ _ | refine Below.drew ?_ | refine bel_alloc ?_ _ | refine bel_set ?_ (by first | exact Nat.le_refl _ | (simp; done) | (simp; omega) | omega) _ | refine bel_trans ?_ (by assumption)))) hb_1
    clear t_
    clear hb0 hb_1
    replace hB_1 := Lib.hid hB_1
    go_wp2_with fail
    refine (RX.out _).mono ?_
    rintro e w_2 ⟨rfl, hb_2⟩
    have z_2 := hb_2.size
    try simp at z_2
    have t_ := hB_1.out
    have hB_2 := bel_eld (w := w) (X := _) (by first | ((repeat (first | with_reducible exact Below.refl _ _ | with_reducible assumption | (with_reducible refine bel_set ?_ (by first | exact Nat.le_refl _ | (simp; done) | (simp; omega) | omega) _) | with_reducible refine bel_grow ?_ _ | with_reducible refine Below.drew ?_ | with_reducible refine below_drewN ?_ _ | with_reducible refine bel_alloc ?_ _ | with_reducible refine bel_trans ?_ (by assumption))); done) | (repeat (first | exact Below.refl _ _ | assumption | refine below_drewN ?_ _ | refine bel_grow ?_ _ | refine Below.drew ?_ | refine bel_alloc ?_ _ | refine bel_set ?_ (by first | exact Nat.le_refl _ | (simp; done) | (simp; omega) | omega) _ | refine bel_trans ?_ (by assumption)))) hb_2
    clear t_
    clear hB_1 hb_2
    replace hB_2 := Lib.hid hB_2
    go_wp2_with fail
    go_ret
    exact ⟨rfl, hB_2.out⟩
  · rw [hq] at HG
    replace HG := Lib.hid HG
    clear hq h
    have hb0 := Below.refl w.heap.size w
    go_enter Try.func4, Try.ntmps4
    replace hb0 := Lib.hid hb0
    go_wp2_with fail
    refine (HG.out _ (bel_alloc (Below.refl _ _) _)).mono ?_
    rintro e w_1 ⟨rfl, hb_1⟩
    have z_1 := hb_1.size
    try simp at z_1
    have t_ := hb0.out
    have hB_1 := bel_eld (w := w) (X := _) (by first | ((repeat (first | with_reducible exact Below.refl _ _ | with_reducible assumption | (with_reducible refine bel_set ?_ (by first | exact Nat.le_refl _ | (simp; done) | (simp; omega) | omega) _) | with_reducible refine bel_grow ?_ _ | with_reducible refine Below.drew ?_ | with_reducible refine below_drewN ?_ _ | with_reducible refine bel_alloc ?_ _ | with_reducible refine bel_trans ?_ (by assumption))); done) | (repeat (first | exact Below.refl _ _ | assumption | refine below_drewN ?_ _ | refine bel_grow ?_ _ | refine Below.drew ?_ | refine bel_alloc ?_ _ | refine bel_set ?_ (by first | exact Nat.le_refl _ | (simp; done) | (simp; omega) | omega) _ | refine bel_trans ?_ (by assumption)))) hb_1
    clear t_
    clear hb0 hb_1
    replace hB_1 := Lib.hid hB_1
    go_wp2_with fail
    refine (RX.out _).mono ?_
    rintro e w_2 ⟨rfl, hb_2⟩
    have z_2 := hb_2.size
    try simp at z_2
    have t_ := hB_1.out
    have hB_2 := bel_eld (w := w) (X := _) (by first | ((repeat (first | with_reducible exact Below.refl _ _ | with_reducible assumption | (with_reducible refine bel_set ?_ (by first | exact Nat.le_refl _ | (simp; done) | (simp; omega) | omega) _) | with_reducible refine bel_grow ?_ _ | with_reducible refine Below.drew ?_ | with_reducible refine below_drewN ?_ _ | with_reducible refine bel_alloc ?_ _ | with_reducible refine bel_trans ?_ (by assumption))); done) | (repeat (first | exact Below.refl _ _ | assumption | refine below_drewN ?_ _ | refine bel_grow ?_ _ | refine Below.drew ?_ | refine bel_alloc ?_ _ | refine bel_set ?_ (by first | exact Nat.le_refl _ | (simp; done) | (simp; omega) | omega) _ | refine bel_trans ?_ (by assumption)))) hb_2
    clear t_
    clear hB_1 hb_2
    replace hB_2 := Lib.hid hB_2
    go_wp2_with fail
    go_ret
    exact ⟨rfl, hB_2.out⟩
set_option maxRecDepth 8000 in
set_option maxHeartbeats 8000000 in
theorem nodeFinds_near (lf : Bool) (KA VA CA : Option Addr) (kn kc vn vc cn cc : Nat) (KL VL : Nat → Nat) (K V : Nat → Nat → Int) (C : Nat → Int) (Y : Option Addr) (l lc : Nat) (y : Nat → Int) (w : World) (hg : greatB ⟨lf, kn, KL, K, vn, VL, V, cn, C⟩ = false) (hl : l ≤ 200) (hKb : ∀ i j, 0 ≤ K i j ∧ K i j < 256) (hy : ∀ i, 0 ≤ y i ∧ y i < 256) (hK : RsIs w KA kn KL K) (hV : RsIs w VA vn VL V) (hC : SlIs w CA cn (fun j => .int .u32 (C j))) (hY : SlIs w Y l (yV y)) :
    Calls Try.prog 4 #[.agg #[.bool lf, .slice KA kn kc, .slice VA vn vc, .slice CA cn cc], .slice Y l lc] w fun r w' => r = .returned (.bool true) ∧ Below w.heap.size w w' := by
  obtain ⟨q1, q2, q3, q4, q5⟩ := great_no hg
  dsimp only at q1 q2 q3 q4 q5
  have HG := fun W (hb : Below w.heap.size w W) => great_any lf KA VA CA kn kc vn vc cn cc KL VL K V C W (by unfold maxLen; omega) (by unfold maxLen; omega) (by unfold maxLen; omega) (hK.below hb) (hV.below hb)
  rw [hg] at HG
  have HO := Lib.hid (fun W (hb : Below w.heap.size w W) => of_any lf KA VA CA kn kc vn vc cn cc KL VL K V C W (by omega) (by omega) (by omega) (hK.below hb) (hV.below hb) (hC.below hb))
  have HP := Lib.hid (fun W (hb : Below w.heap.size w W) => place_ok lf KA Y VA CA kn kc l lc vn vc cn cc KL K y W (by omega) (hK.below hb) (hY.below hb))
  have HD := Lib.hid (fun W (hb : Below w.heap.size w W) => kid_ok lf KA Y VA CA kn kc l lc vn vc cn cc KL K y W (by omega) (hK.below hb) (hY.below hb))
  have HR := fun A c W (hs : SlIs W A kn (sV KL K)) => refrises_any A kn c KL K W (by omega) (fun i hi => by have := q4 i hi; omega) hKb hs
  have HA := Lib.hid (fun A c W (hs : SlIs W A kn (sV KL K)) => ahead_any A kn c l KL K y W (by omega) (by omega) hy (fun i hi => by have := q4 i hi; omega) hKb hs)
  have HV := fun W (hb : Below w.heap.size w W) => conv8 (hY.below hb) lc
  have RX := Lib.hid (fun w => nfixed_any w)
  obtain ⟨rb, hrb⟩ : ∃ rb, riseB KL K kn = rb := ⟨_, rfl⟩
  rw [hrb] at HR
  replace HG := Lib.hid HG
  replace HR := Lib.hid HR
  replace HV := Lib.hid HV
  replace hrb := Lib.hid hrb
  have d1 : decide ((l : Int) > 200) = false := decide_eq_false (by omega)
  clear hg hKb hy hK hV hC hY q4 q5
  have hb0 := Below.refl w.heap.size w
  go_enter Try.func4, Try.ntmps4
  replace hb0 := Lib.hid hb0
  go_wp2_with fail
  refine (HG.out _ (bel_alloc (Below.refl _ _) _)).mono ?_
  rintro e w_1 ⟨rfl, hb_1⟩
  have z_1 := hb_1.size
  try simp at z_1
  have t_ := hb0.out
  have hB_1 := bel_eld (w := w) (X := _) (by first | ((repeat (first | with_reducible exact Below.refl _ _ | with_reducible assumption | (with_reducible refine bel_set ?_ (by first | exact Nat.le_refl _ | (simp; done) | (simp; omega) | omega) _) | with_reducible refine bel_grow ?_ _ | with_reducible refine Below.drew ?_ | with_reducible refine below_drewN ?_ _ | with_reducible refine bel_alloc ?_ _ | with_reducible refine bel_trans ?_ (by assumption))); done) | (repeat (first | exact Below.refl _ _ | assumption | refine below_drewN ?_ _ | refine bel_grow ?_ _ | refine Below.drew ?_ | refine bel_alloc ?_ _ | refine bel_set ?_ (by first | exact Nat.le_refl _ | (simp; done) | (simp; omega) | omega) _ | refine bel_trans ?_ (by assumption)))) hb_1
  clear t_
  have g_n : Blk w_1 (w.heap.size) 28 #[.bool lf, .slice KA kn kc, .slice VA vn vc, .slice CA cn cc] := by
    refine Blk.kept ?_ hb_1
    (repeat (first | with_reducible assumption | (with_reducible refine Blk.new' ?_; first | with_reducible rfl | (simp; done)) | with_reducible refine Blk.alloc ?_ _ | with_reducible refine Blk.grow ?_ _ | with_reducible refine Blk.drew ?_ | with_reducible refine Blk.drewN ?_ _ | (with_reducible refine Blk.far ?_ (by first | (dsimp only; omega) | (simp; omega)) _) | (with_reducible apply Blk.two) | (with_reducible refine Blk.set' ?_ _ _ ?_) | (with_reducible rfl) | rfl))
  clear hb0 hb_1
  have f_n := g_n
  clear g_n
  have n_0 : w_1.cell? ⟨w.heap.size, 0, none⟩ = some (.bool lf) := (f_n).cell 0
  have n_1 : w_1.cell? ⟨w.heap.size, 1, none⟩ = some (.slice KA kn kc) := (f_n).cell 1
  have n_2 : w_1.cell? ⟨w.heap.size, 2, none⟩ = some (.slice VA vn vc) := (f_n).cell 2
  have n_3 : w_1.cell? ⟨w.heap.size, 3, none⟩ = some (.slice CA cn cc) := (f_n).cell 3
  have n_f0 := (f_n).frozen 0
  have n_f1 := (f_n).frozen 1
  have n_f2 := (f_n).frozen 2
  have n_f3 := (f_n).frozen 3
  have n_l := (f_n).lt
  replace f_n := Lib.hid f_n
  replace hB_1 := Lib.hid hB_1
  go_wp2_with fail
  refine (HO.out _ (by have t := hB_1.out; first | ((repeat (first | with_reducible exact Below.refl _ _ | with_reducible assumption | (with_reducible refine bel_set ?_ (by first | exact Nat.le_refl _ | (simp; done) | (simp; omega) | omega) _) | with_reducible refine bel_grow ?_ _ | with_reducible refine Below.drew ?_ | with_reducible refine below_drewN ?_ _ | with_reducible refine bel_alloc ?_ _ | with_reducible refine bel_trans ?_ (by assumption))); done) | (repeat (first | exact Below.refl _ _ | assumption | refine below_drewN ?_ _ | refine bel_grow ?_ _ | refine Below.drew ?_ | refine bel_alloc ?_ _ | refine bel_set ?_ (by first | exact Nat.le_refl _ | (simp; done) | (simp; omega) | omega) _ | refine bel_trans ?_ (by assumption))))).mono ?_
  rintro e w_2 ⟨A1, c1, A2, c2, A3, c3, rfl, s_1, s_2, s_3, hb_2⟩
  have z_2 := hb_2.size
  try simp at z_2
  have t_ := hB_1.out
  have hB_2 := bel_eld (w := w) (X := _) (by first | ((repeat (first | with_reducible exact Below.refl _ _ | with_reducible assumption | (with_reducible refine bel_set ?_ (by first | exact Nat.le_refl _ | (simp; done) | (simp; omega) | omega) _) | with_reducible refine bel_grow ?_ _ | with_reducible refine Below.drew ?_ | with_reducible refine below_drewN ?_ _ | with_reducible refine bel_alloc ?_ _ | with_reducible refine bel_trans ?_ (by assumption))); done) | (repeat (first | exact Below.refl _ _ | assumption | refine below_drewN ?_ _ | refine bel_grow ?_ _ | refine Below.drew ?_ | refine bel_alloc ?_ _ | refine bel_set ?_ (by first | exact Nat.le_refl _ | (simp; done) | (simp; omega) | omega) _ | refine bel_trans ?_ (by assumption)))) hb_2
  clear t_
  replace s_1 := Lib.hid s_1
  have t_n := f_n.out
  have g_n : Blk w_2 (w.heap.size) 28 #[.bool lf, .slice KA kn kc, .slice VA vn vc, .slice CA cn cc] := by
    refine Blk.kept ?_ hb_2
    (repeat (first | with_reducible assumption | (with_reducible refine Blk.new' ?_; first | with_reducible rfl | (simp; done)) | with_reducible refine Blk.alloc ?_ _ | with_reducible refine Blk.grow ?_ _ | with_reducible refine Blk.drew ?_ | with_reducible refine Blk.drewN ?_ _ | (with_reducible refine Blk.far ?_ (by first | (dsimp only; omega) | (simp; omega)) _) | (with_reducible apply Blk.two) | (with_reducible refine Blk.set' ?_ _ _ ?_) | (with_reducible rfl) | rfl))
  clear f_n n_l n_0 n_1 n_2 n_3 n_f0 n_f1 n_f2 n_f3 t_n hB_1 hb_2
  have f_n := g_n
  clear g_n
  have n_0 : w_2.cell? ⟨w.heap.size, 0, none⟩ = some (.bool lf) := (f_n).cell 0
  have n_1 : w_2.cell? ⟨w.heap.size, 1, none⟩ = some (.slice KA kn kc) := (f_n).cell 1
  have n_2 : w_2.cell? ⟨w.heap.size, 2, none⟩ = some (.slice VA vn vc) := (f_n).cell 2
  have n_3 : w_2.cell? ⟨w.heap.size, 3, none⟩ = some (.slice CA cn cc) := (f_n).cell 3
  have n_f0 := (f_n).frozen 0
  have n_f1 := (f_n).frozen 1
  have n_f2 := (f_n).frozen 2
  have n_f3 := (f_n).frozen 3
  have n_l := (f_n).lt
  replace f_n := Lib.hid f_n
  replace hB_2 := Lib.hid hB_2
  clear s_2 s_3
  go_wp2_with fail
  refine (HP.out _ (by have t := hB_2.out; first | ((repeat (first | with_reducible exact Below.refl _ _ | with_reducible assumption | (with_reducible refine bel_set ?_ (by first | exact Nat.le_refl _ | (simp; done) | (simp; omega) | omega) _) | with_reducible refine bel_grow ?_ _ | with_reducible refine Below.drew ?_ | with_reducible refine below_drewN ?_ _ | with_reducible refine bel_alloc ?_ _ | with_reducible refine bel_trans ?_ (by assumption))); done) | (repeat (first | exact Below.refl _ _ | assumption | refine below_drewN ?_ _ | refine bel_grow ?_ _ | refine Below.drew ?_ | refine bel_alloc ?_ _ | refine bel_set ?_ (by first | exact Nat.le_refl _ | (simp; done) | (simp; omega) | omega) _ | refine bel_trans ?_ (by assumption))))).mono ?_
  rintro e w_3 ⟨i, ok, i_1, i_2, rfl, hb_3⟩
  have z_3 := hb_3.size
  try simp at z_3
  have t_ := hB_2.out
  have hB_3 := bel_eld (w := w) (X := _) (by first | ((repeat (first | with_reducible exact Below.refl _ _ | with_reducible assumption | (with_reducible refine bel_set ?_ (by first | exact Nat.le_refl _ | (simp; done) | (simp; omega) | omega) _) | with_reducible refine bel_grow ?_ _ | with_reducible refine Below.drew ?_ | with_reducible refine below_drewN ?_ _ | with_reducible refine bel_alloc ?_ _ | with_reducible refine bel_trans ?_ (by assumption))); done) | (repeat (first | exact Below.refl _ _ | assumption | refine below_drewN ?_ _ | refine bel_grow ?_ _ | refine Below.drew ?_ | refine bel_alloc ?_ _ | refine bel_set ?_ (by first | exact Nat.le_refl _ | (simp; done) | (simp; omega) | omega) _ | refine bel_trans ?_ (by assumption)))) hb_3
  clear t_
  have hP_ := bel_eld (w := w_2) (X := _) (by first | ((repeat (first | with_reducible exact Below.refl _ _ | with_reducible assumption | (with_reducible refine bel_set ?_ (by first | exact Nat.le_refl _ | (simp; done) | (simp; omega) | omega) _) | with_reducible refine bel_grow ?_ _ | with_reducible refine Below.drew ?_ | with_reducible refine below_drewN ?_ _ | with_reducible refine bel_alloc ?_ _ | with_reducible refine bel_trans ?_ (by assumption))); done) | (repeat (first | exact Below.refl _ _ | assumption | refine below_drewN ?_ _ | refine bel_grow ?_ _ | refine Below.drew ?_ | refine bel_alloc ?_ _ | refine bel_set ?_ (by first | exact Nat.le_refl _ | (simp; done) | (simp; omega) | omega) _ | refine bel_trans ?_ (by assumption)))) hb_3
  have k_s_1 := Lib.hid (s_1.out.below hP_)
  clear s_1
  have s_1 := k_s_1
  clear k_s_1
  have t_n := f_n.out
  have g_n : Blk w_3 (w.heap.size) 28 #[.bool lf, .slice KA kn kc, .slice VA vn vc, .slice CA cn cc] := Blk.kept t_n hP_
  have g_x : Blk w_3 (w_2.heap.size) 36 #[.bool lf, .slice A1 kn c1, .slice A2 vn c2, .slice A3 cn c3] := by
    refine Blk.kept ?_ hb_3
    (repeat (first | with_reducible assumption | (with_reducible refine Blk.new' ?_; first | with_reducible rfl | (simp; done)) | with_reducible refine Blk.alloc ?_ _ | with_reducible refine Blk.grow ?_ _ | with_reducible refine Blk.drew ?_ | with_reducible refine Blk.drewN ?_ _ | (with_reducible refine Blk.far ?_ (by first | (dsimp only; omega) | (simp; omega)) _) | (with_reducible apply Blk.two) | (with_reducible refine Blk.set' ?_ _ _ ?_) | (with_reducible rfl) | rfl))
  clear hP_
  clear f_n n_l n_0 n_1 n_2 n_3 n_f0 n_f1 n_f2 n_f3 t_n hB_2 hb_3
  have f_n := g_n
  clear g_n
  have f_x := g_x
  clear g_x
  have n_0 : w_3.cell? ⟨w.heap.size, 0, none⟩ = some (.bool lf) := (f_n).cell 0
  have n_1 : w_3.cell? ⟨w.heap.size, 1, none⟩ = some (.slice KA kn kc) := (f_n).cell 1
  have n_2 : w_3.cell? ⟨w.heap.size, 2, none⟩ = some (.slice VA vn vc) := (f_n).cell 2
  have n_3 : w_3.cell? ⟨w.heap.size, 3, none⟩ = some (.slice CA cn cc) := (f_n).cell 3
  have n_f0 := (f_n).frozen 0
  have n_f1 := (f_n).frozen 1
  have n_f2 := (f_n).frozen 2
  have n_f3 := (f_n).frozen 3
  have n_l := (f_n).lt
  replace f_n := Lib.hid f_n
  have x_0 : w_3.cell? ⟨w_2.heap.size, 0, none⟩ = some (.bool lf) := (f_x).cell 0
  have x_1 : w_3.cell? ⟨w_2.heap.size, 1, none⟩ = some (.slice A1 kn c1) := (f_x).cell 1
  have x_2 : w_3.cell? ⟨w_2.heap.size, 2, none⟩ = some (.slice A2 vn c2) := (f_x).cell 2
  have x_3 : w_3.cell? ⟨w_2.heap.size, 3, none⟩ = some (.slice A3 cn c3) := (f_x).cell 3
  have x_f0 := (f_x).frozen 0
  have x_f1 := (f_x).frozen 1
  have x_f2 := (f_x).frozen 2
  have x_f3 := (f_x).frozen 3
  have x_l := (f_x).lt
  replace f_x := Lib.hid f_x
  replace hB_3 := Lib.hid hB_3
  go_wp2_with fail
  refine (HD.out _ (by have t := hB_3.out; first | ((repeat (first | with_reducible exact Below.refl _ _ | with_reducible assumption | (with_reducible refine bel_set ?_ (by first | exact Nat.le_refl _ | (simp; done) | (simp; omega) | omega) _) | with_reducible refine bel_grow ?_ _ | with_reducible refine Below.drew ?_ | with_reducible refine below_drewN ?_ _ | with_reducible refine bel_alloc ?_ _ | with_reducible refine bel_trans ?_ (by assumption))); done) | (repeat (first | exact Below.refl _ _ | assumption | refine below_drewN ?_ _ | refine bel_grow ?_ _ | refine Below.drew ?_ | refine bel_alloc ?_ _ | refine bel_set ?_ (by first | exact Nat.le_refl _ | (simp; done) | (simp; omega) | omega) _ | refine bel_trans ?_ (by assumption))))).mono ?_
  rintro e w_4 ⟨j, j_1, j_2, rfl, hb_4⟩
  have z_4 := hb_4.size
  try simp at z_4
  have t_ := hB_3.out
  have hB_4 := bel_eld (w := w) (X := _) (by first | ((repeat (first | with_reducible exact Below.refl _ _ | with_reducible assumption | (with_reducible refine bel_set ?_ (by first | exact Nat.le_refl _ | (simp; done) | (simp; omega) | omega) _) | with_reducible refine bel_grow ?_ _ | with_reducible refine Below.drew ?_ | with_reducible refine below_drewN ?_ _ | with_reducible refine bel_alloc ?_ _ | with_reducible refine bel_trans ?_ (by assumption))); done) | (repeat (first | exact Below.refl _ _ | assumption | refine below_drewN ?_ _ | refine bel_grow ?_ _ | refine Below.drew ?_ | refine bel_alloc ?_ _ | refine bel_set ?_ (by first | exact Nat.le_refl _ | (simp; done) | (simp; omega) | omega) _ | refine bel_trans ?_ (by assumption)))) hb_4
  clear t_
  have hP_ := bel_eld (w := w_3) (X := _) (by first | ((repeat (first | with_reducible exact Below.refl _ _ | with_reducible assumption | (with_reducible refine bel_set ?_ (by first | exact Nat.le_refl _ | (simp; done) | (simp; omega) | omega) _) | with_reducible refine bel_grow ?_ _ | with_reducible refine Below.drew ?_ | with_reducible refine below_drewN ?_ _ | with_reducible refine bel_alloc ?_ _ | with_reducible refine bel_trans ?_ (by assumption))); done) | (repeat (first | exact Below.refl _ _ | assumption | refine below_drewN ?_ _ | refine bel_grow ?_ _ | refine Below.drew ?_ | refine bel_alloc ?_ _ | refine bel_set ?_ (by first | exact Nat.le_refl _ | (simp; done) | (simp; omega) | omega) _ | refine bel_trans ?_ (by assumption)))) hb_4
  have k_s_1 := Lib.hid (s_1.out.below hP_)
  clear s_1
  have s_1 := k_s_1
  clear k_s_1
  have t_n := f_n.out
  have t_x := f_x.out
  have g_n : Blk w_4 (w.heap.size) 28 #[.bool lf, .slice KA kn kc, .slice VA vn vc, .slice CA cn cc] := Blk.kept t_n hP_
  have g_x : Blk w_4 (w_2.heap.size) 36 #[.bool lf, .slice A1 kn c1, .slice A2 vn c2, .slice A3 cn c3] := Blk.kept t_x hP_
  clear hP_
  clear f_n n_l n_0 n_1 n_2 n_3 n_f0 n_f1 n_f2 n_f3 f_x x_l x_0 x_1 x_2 x_3 x_f0 x_f1 x_f2 x_f3 t_n t_x hB_3 hb_4
  have f_n := g_n
  clear g_n
  have f_x := g_x
  clear g_x
  have n_0 : w_4.cell? ⟨w.heap.size, 0, none⟩ = some (.bool lf) := (f_n).cell 0
  have n_1 : w_4.cell? ⟨w.heap.size, 1, none⟩ = some (.slice KA kn kc) := (f_n).cell 1
  have n_2 : w_4.cell? ⟨w.heap.size, 2, none⟩ = some (.slice VA vn vc) := (f_n).cell 2
  have n_3 : w_4.cell? ⟨w.heap.size, 3, none⟩ = some (.slice CA cn cc) := (f_n).cell 3
  have n_f0 := (f_n).frozen 0
  have n_f1 := (f_n).frozen 1
  have n_f2 := (f_n).frozen 2
  have n_f3 := (f_n).frozen 3
  have n_l := (f_n).lt
  replace f_n := Lib.hid f_n
  have x_0 : w_4.cell? ⟨w_2.heap.size, 0, none⟩ = some (.bool lf) := (f_x).cell 0
  have x_1 : w_4.cell? ⟨w_2.heap.size, 1, none⟩ = some (.slice A1 kn c1) := (f_x).cell 1
  have x_2 : w_4.cell? ⟨w_2.heap.size, 2, none⟩ = some (.slice A2 vn c2) := (f_x).cell 2
  have x_3 : w_4.cell? ⟨w_2.heap.size, 3, none⟩ = some (.slice A3 cn c3) := (f_x).cell 3
  have x_f0 := (f_x).frozen 0
  have x_f1 := (f_x).frozen 1
  have x_f2 := (f_x).frozen 2
  have x_f3 := (f_x).frozen 3
  have x_l := (f_x).lt
  replace f_x := Lib.hid f_x
  replace hB_4 := Lib.hid hB_4
  go_wp2_with fail
  refine (HR.out A1 c1 _ s_1.out).mono ?_
  rintro e w_5 ⟨rfl, hb_5⟩
  have z_5 := hb_5.size
  try simp at z_5
  have t_ := hB_4.out
  have hB_5 := bel_eld (w := w) (X := _) (by first | ((repeat (first | with_reducible exact Below.refl _ _ | with_reducible assumption | (with_reducible refine bel_set ?_ (by first | exact Nat.le_refl _ | (simp; done) | (simp; omega) | omega) _) | with_reducible refine bel_grow ?_ _ | with_reducible refine Below.drew ?_ | with_reducible refine below_drewN ?_ _ | with_reducible refine bel_alloc ?_ _ | with_reducible refine bel_trans ?_ (by assumption))); done) | (repeat (first | exact Below.refl _ _ | assumption | refine below_drewN ?_ _ | refine bel_grow ?_ _ | refine Below.drew ?_ | refine bel_alloc ?_ _ | refine bel_set ?_ (by first | exact Nat.le_refl _ | (simp; done) | (simp; omega) | omega) _ | refine bel_trans ?_ (by assumption)))) hb_5
  clear t_
  have hP_ := bel_eld (w := w_4) (X := _) (by first | ((repeat (first | with_reducible exact Below.refl _ _ | with_reducible assumption | (with_reducible refine bel_set ?_ (by first | exact Nat.le_refl _ | (simp; done) | (simp; omega) | omega) _) | with_reducible refine bel_grow ?_ _ | with_reducible refine Below.drew ?_ | with_reducible refine below_drewN ?_ _ | with_reducible refine bel_alloc ?_ _ | with_reducible refine bel_trans ?_ (by assumption))); done) | (repeat (first | exact Below.refl _ _ | assumption | refine below_drewN ?_ _ | refine bel_grow ?_ _ | refine Below.drew ?_ | refine bel_alloc ?_ _ | refine bel_set ?_ (by first | exact Nat.le_refl _ | (simp; done) | (simp; omega) | omega) _ | refine bel_trans ?_ (by assumption)))) hb_5
  have k_s_1 := Lib.hid (s_1.out.below hP_)
  clear s_1
  have s_1 := k_s_1
  clear k_s_1
  have t_n := f_n.out
  have t_x := f_x.out
  have g_n : Blk w_5 (w.heap.size) 28 #[.bool lf, .slice KA kn kc, .slice VA vn vc, .slice CA cn cc] := Blk.kept t_n hP_
  have g_x : Blk w_5 (w_2.heap.size) 36 #[.bool lf, .slice A1 kn c1, .slice A2 vn c2, .slice A3 cn c3] := Blk.kept t_x hP_
  clear hP_
  clear f_n n_l n_0 n_1 n_2 n_3 n_f0 n_f1 n_f2 n_f3 f_x x_l x_0 x_1 x_2 x_3 x_f0 x_f1 x_f2 x_f3 t_n t_x hB_4 hb_5
  have f_n := g_n
  clear g_n
  have f_x := g_x
  clear g_x
  have n_0 : w_5.cell? ⟨w.heap.size, 0, none⟩ = some (.bool lf) := (f_n).cell 0
  have n_1 : w_5.cell? ⟨w.heap.size, 1, none⟩ = some (.slice KA kn kc) := (f_n).cell 1
  have n_2 : w_5.cell? ⟨w.heap.size, 2, none⟩ = some (.slice VA vn vc) := (f_n).cell 2
  have n_3 : w_5.cell? ⟨w.heap.size, 3, none⟩ = some (.slice CA cn cc) := (f_n).cell 3
  have n_f0 := (f_n).frozen 0
  have n_f1 := (f_n).frozen 1
  have n_f2 := (f_n).frozen 2
  have n_f3 := (f_n).frozen 3
  have n_l := (f_n).lt
  replace f_n := Lib.hid f_n
  have x_0 : w_5.cell? ⟨w_2.heap.size, 0, none⟩ = some (.bool lf) := (f_x).cell 0
  have x_1 : w_5.cell? ⟨w_2.heap.size, 1, none⟩ = some (.slice A1 kn c1) := (f_x).cell 1
  have x_2 : w_5.cell? ⟨w_2.heap.size, 2, none⟩ = some (.slice A2 vn c2) := (f_x).cell 2
  have x_3 : w_5.cell? ⟨w_2.heap.size, 3, none⟩ = some (.slice A3 cn c3) := (f_x).cell 3
  have x_f0 := (f_x).frozen 0
  have x_f1 := (f_x).frozen 1
  have x_f2 := (f_x).frozen 2
  have x_f3 := (f_x).frozen 3
  have x_l := (f_x).lt
  replace f_x := Lib.hid f_x
  replace hB_5 := Lib.hid hB_5
  cases rb
  · go_wp2_with fail
    refine (RX.out _).mono ?_
    rintro e9 w9 ⟨rfl, hb9⟩
    have t0 := keepc hb9 n_1
    have hW := Lib.hid (bel_eld hB_5.out hb9)
    have nl := hb9.size
    clear hb9
    go_wp2_with fail
    go_ret
    exact ⟨rfl, hW.out⟩
  · have hi := i_2.out
    have hj := j_2.out
    have e1 := find_is hrb.out i_1 hi.1 hi.2.1
    have e2 := search_is hrb.out j_1 hj.1 hj.2
    have e3 := ok_is i_1 j_1 hi.2.1 hi.1 hj.1 hj.2 hrb.out
    rw [hi.2.2] at e3
    have HA2 := HA.out A1 c1 w_5 s_1.out
    rw [e1, e2] at HA2
    replace HA2 := Lib.hid HA2
    have q := HV.out w_5 hB_5.out
    subst e3
    clear hi hj e1 e2 i_2 j_2
    go_wp2_with fail
    refine HA2.out.mono ?_
    rintro e8 w8 ⟨rfl, hb8⟩
    have hW8 := Lib.hid (bel_eld hB_5.out hb8)
    clear hb8 q
    go_wp2_with fail
    refine (RX.out _).mono ?_
    rintro e9 w9 ⟨rfl, hb9⟩
    have hW := Lib.hid (bel_eld hW8.out hb9)
    clear hb9
    by_cases hij : i < j
    · have d2 : decide (i < j) = true := decide_eq_true hij
      go_wp2_with fail
      go_ret
      exact ⟨rfl, hW.out⟩
    · have d2 : decide (i < j) = false := decide_eq_false hij
      go_wp2_with fail
      go_ret
      exact ⟨rfl, hW.out⟩
theorem nodeFinds_any (lf : Bool) (KA VA CA : Option Addr) (kn kc vn vc cn cc : Nat) (KL VL : Nat → Nat) (K V : Nat → Nat → Int) (C : Nat → Int) (Y : Option Addr) (l lc : Nat) (y : Nat → Int) (w : World) (m1 : kn ≤ maxLen) (m2 : vn ≤ maxLen) (m3 : cn ≤ maxLen) (m4 : l ≤ maxLen) (hKb : ∀ i j, 0 ≤ K i j ∧ K i j < 256) (hy : ∀ i, 0 ≤ y i ∧ y i < 256) (hK : RsIs w KA kn KL K) (hV : RsIs w VA vn VL V) (hC : SlIs w CA cn (fun j => .int .u32 (C j))) (hY : SlIs w Y l (yV y)) :
    Calls Try.prog 4 #[.agg #[.bool lf, .slice KA kn kc, .slice VA vn vc, .slice CA cn cc], .slice Y l lc] w fun r w' => r = .returned (.bool true) ∧ Below w.heap.size w w' := by
  cases hg : greatB ⟨lf, kn, KL, K, vn, VL, V, cn, C⟩
  · by_cases hl : l ≤ 200
    · exact nodeFinds_near lf KA VA CA kn kc vn vc cn cc KL VL K V C Y l lc y w hg hl hKb hy hK hV hC hY
    · exact nodeFinds_far lf KA VA CA kn kc vn vc cn cc KL VL K V C Y l lc w m1 m2 m3 m4 hK hV (.inr (by omega))
  · exact nodeFinds_far lf KA VA CA kn kc vn vc cn cc KL VL K V C Y l lc w m1 m2 m3 m4 hK hV (.inl hg)
end Go.Proofs.Ytbmdnifkjcimcaa
