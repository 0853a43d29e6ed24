/-
  NodeWrites, walked.
-/
import Derived.Test.YtbmdnifkjcimcaaNw
import Derived.Test.YtbmdnifkjcimcaaNk
import Derived.Test.YtbmdnifkjcimcaaNh
import Derived.Test.YtbmdnifkjcimcaaNp
namespace Go.Proofs.Ytbmdnifkjcimcaa
set_option linter.unusedVariables false
set_option linter.unusedSimpArgs false
open Go.RowKit

theorem sV_congr {L L' : Nat → Nat} {R R' : Nat → Nat → Int} {i : Nat} (hL : L i = L' i) (hR : ∀ j, j < L' i → R i j = R' i j) : sV L R i = sV L' R' i := by
  unfold sV
  rw [hL, strF_congr hR]

set_option maxRecDepth 8000 in
set_option maxHeartbeats 8000000 in
theorem nodeWrites_far (lf : Bool) (KA VA CA : Option Addr) (kn kc vn vc cn cc : Nat) (KL VL : Nat → Nat) (K V : Nat → Nat → Int) (C : Nat → Int) (k v : Int) (w : World) (m1 : kn ≤ maxLen) (m2 : vn ≤ maxLen) (m3 : cn ≤ maxLen) (hK : RsIs w KA kn KL K) (hV : RsIs w VA vn VL V) (h : greatB ⟨lf, kn, KL, K, vn, VL, V, cn, C⟩ = true) :
    Calls Try.prog 5 #[.agg #[.bool lf, .slice KA kn kc, .slice VA vn vc, .slice CA cn cc], .agg #[.int .i64 k, .int .i64 v]] w fun r w' => r = .returned (.bool true) ∧ Below w.heap.size w w' := by
  have HG := fun W (hb : Below w.heap.size w W) => great_any lf KA VA CA kn kc vn vc cn cc KL VL K V C W m1 m2 m3 (hK.below hb) (hV.below hb)
  have RX := Lib.hid (fun w => nfixed_any w)
  rw [h] at HG
  replace HG := Lib.hid HG
  clear hK hV h
  have hb0 := Below.refl w.heap.size w
  go_enter Try.func5, Try.ntmps5
  replace hb0 := Lib.hid hb0
  go_wp2_with fail
  refine (HG.out _ (bel_alloc (bel_alloc (Below.refl _ _) _) _)).mono ?_
  rintro e w_1 ⟨rfl, hb_1⟩
  have z_1 := hb_1.size
  try simp at z_1
  have t_ := hb0.out
  have hB_1 := bel_eld (w := w) (X := _) (by first | ((repeat (first | with_reducible exact Below.refl _ _ | with_reducible assumption | (with_reducible refine bel_set ?_ (by first | exact Nat.le_refl _ | (simp; done) | (simp; omega) | omega) _) | with_reducible refine bel_grow ?_ _ | with_reducible refine Below.drew ?_ | with_reducible refine below_drewN ?_ _ | with_reducible refine bel_alloc ?_ _ | with_reducible refine bel_trans ?_ (by assumption))); done) | (repeat (first | exact Below.refl _ _ | assumption | refine below_drewN ?_ _ | refine bel_grow ?_ _ | refine Below.drew ?_ | refine bel_alloc ?_ _ | refine bel_set ?_ (by first | exact Nat.le_refl _ | (simp; done) | (simp; omega) | omega) _ | refine bel_trans ?_ (by assumption)))) hb_1
  clear t_
  clear hb0 hb_1
  replace hB_1 := Lib.hid hB_1
  go_wp2_with fail
  refine (RX.out _).mono ?_
  rintro e w_2 ⟨rfl, hb_2⟩
  have z_2 := hb_2.size
  try simp at z_2
  have t_ := hB_1.out
  have hB_2 := bel_eld (w := w) (X := _) (by first | ((repeat (first | with_reducible exact Below.refl _ _ | with_reducible assumption | (with_reducible refine bel_set ?_ (by first | exact Nat.le_refl _ | (simp; done) | (simp; omega) | omega) _) | with_reducible refine bel_grow ?_ _ | with_reducible refine Below.drew ?_ | with_reducible refine below_drewN ?_ _ | with_reducible refine bel_alloc ?_ _ | with_reducible refine bel_trans ?_ (by assumption))); done) | (repeat (first | exact Below.refl _ _ | assumption | refine below_drewN ?_ _ | refine bel_grow ?_ _ | refine Below.drew ?_ | refine bel_alloc ?_ _ | refine bel_set ?_ (by first | exact Nat.le_refl _ | (simp; done) | (simp; omega) | omega) _ | refine bel_trans ?_ (by assumption)))) hb_2
  clear t_
  clear hB_1 hb_2
  replace hB_2 := Lib.hid hB_2
  go_wp2_with fail
  go_ret
  exact ⟨rfl, hB_2.out⟩

set_option maxRecDepth 8000 in
set_option maxHeartbeats 8000000 in
theorem nodeWrites_no (lf : Bool) (KA VA CA : Option Addr) (kn kc vn vc cn cc : Nat) (KL VL : Nat → Nat) (K V : Nat → Nat → Int) (C : Nat → Int) (k v : Int) (w : World) (hg : greatB ⟨lf, kn, KL, K, vn, VL, V, cn, C⟩ = false) (hKb : ∀ i j, 0 ≤ K i j ∧ K i j < 256) (hVb : ∀ i j, 0 ≤ V i j ∧ V i j < 256) (hCb : ∀ i, 0 ≤ C i ∧ C i < 4294967296) (hK : RsIs w KA kn KL K) (hV : RsIs w VA vn VL V) (hC : SlIs w CA cn (fun j => .int .u32 (C j))) (hr : rightB ⟨lf, kn, KL, K, vn, VL, V, cn, C⟩ k v = false) :
    Calls Try.prog 5 #[.agg #[.bool lf, .slice KA kn kc, .slice VA vn vc, .slice CA cn cc], .agg #[.int .i64 k, .int .i64 v]] w fun r w' => r = .returned (.bool true) ∧ Below w.heap.size w w' := by
  obtain ⟨q1, q2, q3, q4, q5⟩ := great_no hg
  dsimp only at q1 q2 q3 q4 q5
  have hL : ∀ i, i < kn → KL i ≤ 1000000 := fun i hi => Nat.le_trans (q4 i hi) (by omega)
  have HG := fun W (hb : Below w.heap.size w W) => great_any lf KA VA CA kn kc vn vc cn cc KL VL K V C W (by unfold maxLen; omega) (by unfold maxLen; omega) (by unfold maxLen; omega) (hK.below hb) (hV.below hb)
  rw [hg] at HG
  replace HG := Lib.hid HG
  have HO := Lib.hid (fun W (hb : Below w.heap.size w W) => of_any lf KA VA CA kn kc vn vc cn cc KL VL K V C W (by omega) (by omega) (by omega) (hK.below hb) (hV.below hb) (hC.below hb))
  have hNd : ∀ W, Below w.heap.size w W → NdIs W KA VA CA ⟨lf, kn, KL, K, vn, VL, V, cn, C⟩ := fun W hb => ⟨hK.below hb, hV.below hb, hC.below hb, by show kn ≤ 1000000; omega, by show vn ≤ 1000000; omega, by show cn ≤ 1000000; omega⟩
  have HI := fun W (hb : Below w.heap.size w W) => right_any lf KA VA CA kn kc vn vc cn cc KL VL K V C k v W (hNd W hb)
  have HJ := fun A1 c1 A2 c2 A3 c3 W (h1 : SlIs W A1 kn (sV KL K)) (h2 : SlIs W A2 vn (sV VL V)) (h3 : SlIs W A3 cn (fun j => .int .u32 (C j))) => refright_any lf A1 A2 A3 kn c1 vn c2 cn c3 KL VL K V C k v W (by omega) (by omega) (by omega) hL hKb h1 h2 h3
  rw [hr] at HI HJ
  replace HI := Lib.hid HI
  replace HJ := Lib.hid HJ
  have RX := Lib.hid (fun w => nfixed_any w)
  have hb0 := Below.refl w.heap.size w
  have HW := Lib.hid (fun W (hb : Below w.heap.size w W) => write_no lf KA VA CA kn kc vn vc cn cc KL VL K V C k v W (hNd W hb) hr)
  have HV := Lib.hid (fun A1 c1 A2 c2 A3 c3 W (h1 : SlIs W A1 kn (sV KL K)) (h2 : SlIs W A2 vn (sV VL V)) (h3 : SlIs W A3 cn (fun j => .int .u32 (C j))) => refwrite_no lf A1 A2 A3 kn c1 vn c2 cn c3 KL VL K V C k v W (by omega) (by omega) (by omega) hL hKb h1 h2 h3 hr)
  clear hr hg hKb hVb hCb hK hV hC hNd hL q4 q5
  go_enter Try.func5, Try.ntmps5
  replace hb0 := Lib.hid hb0
  go_wp2_with fail
  refine (HG.out _ (bel_alloc (bel_alloc (Below.refl _ _) _) _)).mono ?_
  rintro e w_1 ⟨rfl, hb_1⟩
  have z_1 := hb_1.size
  try simp at z_1
  have t_ := hb0.out
  have hB_1 := bel_eld (w := w) (X := _) (by first | ((repeat (first | with_reducible exact Below.refl _ _ | with_reducible assumption | (with_reducible refine bel_set ?_ (by first | exact Nat.le_refl _ | (simp; done) | (simp; omega) | omega) _) | with_reducible refine bel_grow ?_ _ | with_reducible refine Below.drew ?_ | with_reducible refine below_drewN ?_ _ | with_reducible refine bel_alloc ?_ _ | with_reducible refine bel_trans ?_ (by assumption))); done) | (repeat (first | exact Below.refl _ _ | assumption | refine below_drewN ?_ _ | refine bel_grow ?_ _ | refine Below.drew ?_ | refine bel_alloc ?_ _ | refine bel_set ?_ (by first | exact Nat.le_refl _ | (simp; done) | (simp; omega) | omega) _ | refine bel_trans ?_ (by assumption)))) hb_1
  clear t_
  have g_n : Blk w_1 (w.heap.size) 28 #[.bool lf, .slice KA kn kc, .slice VA vn vc, .slice CA cn cc] := by
    refine Blk.kept ?_ hb_1
    (repeat (first | with_reducible assumption | (with_reducible refine Blk.new' ?_; first | with_reducible rfl | (simp; done)) | with_reducible refine Blk.alloc ?_ _ | with_reducible refine Blk.grow ?_ _ | with_reducible refine Blk.drew ?_ | with_reducible refine Blk.drewN ?_ _ | (with_reducible refine Blk.far ?_ (by first | (dsimp only; omega) | (simp; omega)) _) | (with_reducible apply Blk.two) | (with_reducible refine Blk.set' ?_ _ _ ?_) | (with_reducible rfl) | rfl))
  have g_ww : Blk w_1 (w.heap.size + 1) 45 #[.int .i64 k, .int .i64 v] := by
    refine Blk.kept ?_ hb_1
    (repeat (first | with_reducible assumption | (with_reducible refine Blk.new' ?_; first | with_reducible rfl | (simp; done)) | with_reducible refine Blk.alloc ?_ _ | with_reducible refine Blk.grow ?_ _ | with_reducible refine Blk.drew ?_ | with_reducible refine Blk.drewN ?_ _ | (with_reducible refine Blk.far ?_ (by first | (dsimp only; omega) | (simp; omega)) _) | (with_reducible apply Blk.two) | (with_reducible refine Blk.set' ?_ _ _ ?_) | (with_reducible rfl) | rfl))
  clear hb0 hb_1
  have f_n := g_n
  clear g_n
  have f_ww := g_ww
  clear g_ww
  have n_0 : w_1.cell? ⟨w.heap.size, 0, none⟩ = some (.bool lf) := (f_n).cell 0
  have n_1 : w_1.cell? ⟨w.heap.size, 1, none⟩ = some (.slice KA kn kc) := (f_n).cell 1
  have n_2 : w_1.cell? ⟨w.heap.size, 2, none⟩ = some (.slice VA vn vc) := (f_n).cell 2
  have n_3 : w_1.cell? ⟨w.heap.size, 3, none⟩ = some (.slice CA cn cc) := (f_n).cell 3
  have n_f0 := (f_n).frozen 0
  have n_f1 := (f_n).frozen 1
  have n_f2 := (f_n).frozen 2
  have n_f3 := (f_n).frozen 3
  have n_l := (f_n).lt
  replace f_n := Lib.hid f_n
  have ww_0 : w_1.cell? ⟨w.heap.size + 1, 0, none⟩ = some (.int .i64 k) := (f_ww).cell 0
  have ww_1 : w_1.cell? ⟨w.heap.size + 1, 1, none⟩ = some (.int .i64 v) := (f_ww).cell 1
  have ww_f0 := (f_ww).frozen 0
  have ww_f1 := (f_ww).frozen 1
  have ww_l := (f_ww).lt
  replace f_ww := Lib.hid f_ww
  replace hB_1 := Lib.hid hB_1
  go_wp2_with fail
  refine (HO.out _ (by have t := hB_1.out; first | ((repeat (first | with_reducible exact Below.refl _ _ | with_reducible assumption | (with_reducible refine bel_set ?_ (by first | exact Nat.le_refl _ | (simp; done) | (simp; omega) | omega) _) | with_reducible refine bel_grow ?_ _ | with_reducible refine Below.drew ?_ | with_reducible refine below_drewN ?_ _ | with_reducible refine bel_alloc ?_ _ | with_reducible refine bel_trans ?_ (by assumption))); done) | (repeat (first | exact Below.refl _ _ | assumption | refine below_drewN ?_ _ | refine bel_grow ?_ _ | refine Below.drew ?_ | refine bel_alloc ?_ _ | refine bel_set ?_ (by first | exact Nat.le_refl _ | (simp; done) | (simp; omega) | omega) _ | refine bel_trans ?_ (by assumption))))).mono ?_
  rintro e w_2 ⟨A1, c1, A2, c2, A3, c3, rfl, s_1, s_2, s_3, hb_2⟩
  have z_2 := hb_2.size
  try simp at z_2
  have t_ := hB_1.out
  have hB_2 := bel_eld (w := w) (X := _) (by first | ((repeat (first | with_reducible exact Below.refl _ _ | with_reducible assumption | (with_reducible refine bel_set ?_ (by first | exact Nat.le_refl _ | (simp; done) | (simp; omega) | omega) _) | with_reducible refine bel_grow ?_ _ | with_reducible refine Below.drew ?_ | with_reducible refine below_drewN ?_ _ | with_reducible refine bel_alloc ?_ _ | with_reducible refine bel_trans ?_ (by assumption))); done) | (repeat (first | exact Below.refl _ _ | assumption | refine below_drewN ?_ _ | refine bel_grow ?_ _ | refine Below.drew ?_ | refine bel_alloc ?_ _ | refine bel_set ?_ (by first | exact Nat.le_refl _ | (simp; done) | (simp; omega) | omega) _ | refine bel_trans ?_ (by assumption)))) hb_2
  clear t_
  replace s_1 := Lib.hid s_1
  replace s_2 := Lib.hid s_2
  replace s_3 := Lib.hid s_3
  have t_n := f_n.out
  have t_ww := f_ww.out
  have g_n : Blk w_2 (w.heap.size) 28 #[.bool lf, .slice KA kn kc, .slice VA vn vc, .slice CA cn cc] := by
    refine Blk.kept ?_ hb_2
    (repeat (first | with_reducible assumption | (with_reducible refine Blk.new' ?_; first | with_reducible rfl | (simp; done)) | with_reducible refine Blk.alloc ?_ _ | with_reducible refine Blk.grow ?_ _ | with_reducible refine Blk.drew ?_ | with_reducible refine Blk.drewN ?_ _ | (with_reducible refine Blk.far ?_ (by first | (dsimp only; omega) | (simp; omega)) _) | (with_reducible apply Blk.two) | (with_reducible refine Blk.set' ?_ _ _ ?_) | (with_reducible rfl) | rfl))
  have g_ww : Blk w_2 (w.heap.size + 1) 45 #[.int .i64 k, .int .i64 v] := by
    refine Blk.kept ?_ hb_2
    (repeat (first | with_reducible assumption | (with_reducible refine Blk.new' ?_; first | with_reducible rfl | (simp; done)) | with_reducible refine Blk.alloc ?_ _ | with_reducible refine Blk.grow ?_ _ | with_reducible refine Blk.drew ?_ | with_reducible refine Blk.drewN ?_ _ | (with_reducible refine Blk.far ?_ (by first | (dsimp only; omega) | (simp; omega)) _) | (with_reducible apply Blk.two) | (with_reducible refine Blk.set' ?_ _ _ ?_) | (with_reducible rfl) | rfl))
  clear f_n n_l n_0 n_1 n_2 n_3 n_f0 n_f1 n_f2 n_f3 f_ww ww_l ww_0 ww_1 ww_f0 ww_f1 t_n t_ww hB_1 hb_2
  have f_n := g_n
  clear g_n
  have f_ww := g_ww
  clear g_ww
  have n_0 : w_2.cell? ⟨w.heap.size, 0, none⟩ = some (.bool lf) := (f_n).cell 0
  have n_1 : w_2.cell? ⟨w.heap.size, 1, none⟩ = some (.slice KA kn kc) := (f_n).cell 1
  have n_2 : w_2.cell? ⟨w.heap.size, 2, none⟩ = some (.slice VA vn vc) := (f_n).cell 2
  have n_3 : w_2.cell? ⟨w.heap.size, 3, none⟩ = some (.slice CA cn cc) := (f_n).cell 3
  have n_f0 := (f_n).frozen 0
  have n_f1 := (f_n).frozen 1
  have n_f2 := (f_n).frozen 2
  have n_f3 := (f_n).frozen 3
  have n_l := (f_n).lt
  replace f_n := Lib.hid f_n
  have ww_0 : w_2.cell? ⟨w.heap.size + 1, 0, none⟩ = some (.int .i64 k) := (f_ww).cell 0
  have ww_1 : w_2.cell? ⟨w.heap.size + 1, 1, none⟩ = some (.int .i64 v) := (f_ww).cell 1
  have ww_f0 := (f_ww).frozen 0
  have ww_f1 := (f_ww).frozen 1
  have ww_l := (f_ww).lt
  replace f_ww := Lib.hid f_ww
  replace hB_2 := Lib.hid hB_2
  go_wp2_with fail
  refine (HW.out _ (by have t := hB_2.out; first | ((repeat (first | with_reducible exact Below.refl _ _ | with_reducible assumption | (with_reducible refine bel_set ?_ (by first | exact Nat.le_refl _ | (simp; done) | (simp; omega) | omega) _) | with_reducible refine bel_grow ?_ _ | with_reducible refine Below.drew ?_ | with_reducible refine below_drewN ?_ _ | with_reducible refine bel_alloc ?_ _ | with_reducible refine bel_trans ?_ (by assumption))); done) | (repeat (first | exact Below.refl _ _ | assumption | refine below_drewN ?_ _ | refine bel_grow ?_ _ | refine Below.drew ?_ | refine bel_alloc ?_ _ | refine bel_set ?_ (by first | exact Nat.le_refl _ | (simp; done) | (simp; omega) | omega) _ | refine bel_trans ?_ (by assumption))))).mono ?_
  rintro e w_3 ⟨rfl, hb_3⟩
  have z_3 := hb_3.size
  try simp at z_3
  have t_ := hB_2.out
  have hB_3 := bel_eld (w := w) (X := _) (by first | ((repeat (first | with_reducible exact Below.refl _ _ | with_reducible assumption | (with_reducible refine bel_set ?_ (by first | exact Nat.le_refl _ | (simp; done) | (simp; omega) | omega) _) | with_reducible refine bel_grow ?_ _ | with_reducible refine Below.drew ?_ | with_reducible refine below_drewN ?_ _ | with_reducible refine bel_alloc ?_ _ | with_reducible refine bel_trans ?_ (by assumption))); done) | (repeat (first | exact Below.refl _ _ | assumption | refine below_drewN ?_ _ | refine bel_grow ?_ _ | refine Below.drew ?_ | refine bel_alloc ?_ _ | refine bel_set ?_ (by first | exact Nat.le_refl _ | (simp; done) | (simp; omega) | omega) _ | refine bel_trans ?_ (by assumption)))) hb_3
  clear t_
  have hP_ := bel_eld (w := w_2) (X := _) (by first | ((repeat (first | with_reducible exact Below.refl _ _ | with_reducible assumption | (with_reducible refine bel_set ?_ (by first | exact Nat.le_refl _ | (simp; done) | (simp; omega) | omega) _) | with_reducible refine bel_grow ?_ _ | with_reducible refine Below.drew ?_ | with_reducible refine below_drewN ?_ _ | with_reducible refine bel_alloc ?_ _ | with_reducible refine bel_trans ?_ (by assumption))); done) | (repeat (first | exact Below.refl _ _ | assumption | refine below_drewN ?_ _ | refine bel_grow ?_ _ | refine Below.drew ?_ | refine bel_alloc ?_ _ | refine bel_set ?_ (by first | exact Nat.le_refl _ | (simp; done) | (simp; omega) | omega) _ | refine bel_trans ?_ (by assumption)))) hb_3
  have k_s_1 := Lib.hid (s_1.out.below hP_)
  clear s_1
  have s_1 := k_s_1
  clear k_s_1
  have k_s_2 := Lib.hid (s_2.out.below hP_)
  clear s_2
  have s_2 := k_s_2
  clear k_s_2
  have k_s_3 := Lib.hid (s_3.out.below hP_)
  clear s_3
  have s_3 := k_s_3
  clear k_s_3
  have t_n := f_n.out
  have t_ww := f_ww.out
  have g_n : Blk w_3 (w.heap.size) 28 #[.bool lf, .slice KA kn kc, .slice VA vn vc, .slice CA cn cc] := Blk.kept t_n hP_
  have g_ww : Blk w_3 (w.heap.size + 1) 45 #[.int .i64 k, .int .i64 v] := Blk.kept t_ww hP_
  have g_x : Blk w_3 (w_2.heap.size) 36 #[.bool lf, .slice A1 kn c1, .slice A2 vn c2, .slice A3 cn c3] := by
    refine Blk.kept ?_ hb_3
    (repeat (first | with_reducible assumption | (with_reducible refine Blk.new' ?_; first | with_reducible rfl | (simp; done)) | with_reducible refine Blk.alloc ?_ _ | with_reducible refine Blk.grow ?_ _ | with_reducible refine Blk.drew ?_ | with_reducible refine Blk.drewN ?_ _ | (with_reducible refine Blk.far ?_ (by first | (dsimp only; omega) | (simp; omega)) _) | (with_reducible apply Blk.two) | (with_reducible refine Blk.set' ?_ _ _ ?_) | (with_reducible rfl) | rfl))
  clear hP_
  clear f_n n_l n_0 n_1 n_2 n_3 n_f0 n_f1 n_f2 n_f3 f_ww ww_l ww_0 ww_1 ww_f0 ww_f1 t_n t_ww hB_2 hb_3
  have f_n := g_n
  clear g_n
  have f_ww := g_ww
  clear g_ww
  have f_x := g_x
  clear g_x
  have n_0 : w_3.cell? ⟨w.heap.size, 0, none⟩ = some (.bool lf) := (f_n).cell 0
  have n_1 : w_3.cell? ⟨w.heap.size, 1, none⟩ = some (.slice KA kn kc) := (f_n).cell 1
  have n_2 : w_3.cell? ⟨w.heap.size, 2, none⟩ = some (.slice VA vn vc) := (f_n).cell 2
  have n_3 : w_3.cell? ⟨w.heap.size, 3, none⟩ = some (.slice CA cn cc) := (f_n).cell 3
  have n_f0 := (f_n).frozen 0
  have n_f1 := (f_n).frozen 1
  have n_f2 := (f_n).frozen 2
  have n_f3 := (f_n).frozen 3
  have n_l := (f_n).lt
  replace f_n := Lib.hid f_n
  have ww_0 : w_3.cell? ⟨w.heap.size + 1, 0, none⟩ = some (.int .i64 k) := (f_ww).cell 0
  have ww_1 : w_3.cell? ⟨w.heap.size + 1, 1, none⟩ = some (.int .i64 v) := (f_ww).cell 1
  have ww_f0 := (f_ww).frozen 0
  have ww_f1 := (f_ww).frozen 1
  have ww_l := (f_ww).lt
  replace f_ww := Lib.hid f_ww
  have x_0 : w_3.cell? ⟨w_2.heap.size, 0, none⟩ = some (.bool lf) := (f_x).cell 0
  have x_1 : w_3.cell? ⟨w_2.heap.size, 1, none⟩ = some (.slice A1 kn c1) := (f_x).cell 1
  have x_2 : w_3.cell? ⟨w_2.heap.size, 2, none⟩ = some (.slice A2 vn c2) := (f_x).cell 2
  have x_3 : w_3.cell? ⟨w_2.heap.size, 3, none⟩ = some (.slice A3 cn c3) := (f_x).cell 3
  have x_f0 := (f_x).frozen 0
  have x_f1 := (f_x).frozen 1
  have x_f2 := (f_x).frozen 2
  have x_f3 := (f_x).frozen 3
  have x_l := (f_x).lt
  replace f_x := Lib.hid f_x
  replace hB_3 := Lib.hid hB_3
  go_wp2_with fail
  refine (HV.out A1 c1 A2 c2 A3 c3 _ s_1.out s_2.out s_3.out).mono ?_
  rintro e w_4 ⟨rfl, hb_4⟩
  have z_4 := hb_4.size
  try simp at z_4
  have t_ := hB_3.out
  have hB_4 := bel_eld (w := w) (X := _) (by first | ((repeat (first | with_reducible exact Below.refl _ _ | with_reducible assumption | (with_reducible refine bel_set ?_ (by first | exact Nat.le_refl _ | (simp; done) | (simp; omega) | omega) _) | with_reducible refine bel_grow ?_ _ | with_reducible refine Below.drew ?_ | with_reducible refine below_drewN ?_ _ | with_reducible refine bel_alloc ?_ _ | with_reducible refine bel_trans ?_ (by assumption))); done) | (repeat (first | exact Below.refl _ _ | assumption | refine below_drewN ?_ _ | refine bel_grow ?_ _ | refine Below.drew ?_ | refine bel_alloc ?_ _ | refine bel_set ?_ (by first | exact Nat.le_refl _ | (simp; done) | (simp; omega) | omega) _ | refine bel_trans ?_ (by assumption)))) hb_4
  clear t_
  have hP_ := bel_eld (w := w_3) (X := _) (by first | ((repeat (first | with_reducible exact Below.refl _ _ | with_reducible assumption | (with_reducible refine bel_set ?_ (by first | exact Nat.le_refl _ | (simp; done) | (simp; omega) | omega) _) | with_reducible refine bel_grow ?_ _ | with_reducible refine Below.drew ?_ | with_reducible refine below_drewN ?_ _ | with_reducible refine bel_alloc ?_ _ | with_reducible refine bel_trans ?_ (by assumption))); done) | (repeat (first | exact Below.refl _ _ | assumption | refine below_drewN ?_ _ | refine bel_grow ?_ _ | refine Below.drew ?_ | refine bel_alloc ?_ _ | refine bel_set ?_ (by first | exact Nat.le_refl _ | (simp; done) | (simp; omega) | omega) _ | refine bel_trans ?_ (by assumption)))) hb_4
  have k_s_1 := Lib.hid (s_1.out.below hP_)
  clear s_1
  have s_1 := k_s_1
  clear k_s_1
  have k_s_2 := Lib.hid (s_2.out.below hP_)
  clear s_2
  have s_2 := k_s_2
  clear k_s_2
  have k_s_3 := Lib.hid (s_3.out.below hP_)
  clear s_3
  have s_3 := k_s_3
  clear k_s_3
  have t_n := f_n.out
  have t_ww := f_ww.out
  have t_x := f_x.out
  have g_n : Blk w_4 (w.heap.size) 28 #[.bool lf, .slice KA kn kc, .slice VA vn vc, .slice CA cn cc] := Blk.kept t_n hP_
  have g_ww : Blk w_4 (w.heap.size + 1) 45 #[.int .i64 k, .int .i64 v] := Blk.kept t_ww hP_
  have g_x : Blk w_4 (w_2.heap.size) 36 #[.bool lf, .slice A1 kn c1, .slice A2 vn c2, .slice A3 cn c3] := Blk.kept t_x hP_
  clear hP_
  clear f_n n_l n_0 n_1 n_2 n_3 n_f0 n_f1 n_f2 n_f3 f_ww ww_l ww_0 ww_1 ww_f0 ww_f1 f_x x_l x_0 x_1 x_2 x_3 x_f0 x_f1 x_f2 x_f3 t_n t_ww t_x hB_3 hb_4
  have f_n := g_n
  clear g_n
  have f_ww := g_ww
  clear g_ww
  have f_x := g_x
  clear g_x
  have n_0 : w_4.cell? ⟨w.heap.size, 0, none⟩ = some (.bool lf) := (f_n).cell 0
  have n_1 : w_4.cell? ⟨w.heap.size, 1, none⟩ = some (.slice KA kn kc) := (f_n).cell 1
  have n_2 : w_4.cell? ⟨w.heap.size, 2, none⟩ = some (.slice VA vn vc) := (f_n).cell 2
  have n_3 : w_4.cell? ⟨w.heap.size, 3, none⟩ = some (.slice CA cn cc) := (f_n).cell 3
  have n_f0 := (f_n).frozen 0
  have n_f1 := (f_n).frozen 1
  have n_f2 := (f_n).frozen 2
  have n_f3 := (f_n).frozen 3
  have n_l := (f_n).lt
  replace f_n := Lib.hid f_n
  have ww_0 : w_4.cell? ⟨w.heap.size + 1, 0, none⟩ = some (.int .i64 k) := (f_ww).cell 0
  have ww_1 : w_4.cell? ⟨w.heap.size + 1, 1, none⟩ = some (.int .i64 v) := (f_ww).cell 1
  have ww_f0 := (f_ww).frozen 0
  have ww_f1 := (f_ww).frozen 1
  have ww_l := (f_ww).lt
  replace f_ww := Lib.hid f_ww
  have x_0 : w_4.cell? ⟨w_2.heap.size, 0, none⟩ = some (.bool lf) := (f_x).cell 0
  have x_1 : w_4.cell? ⟨w_2.heap.size, 1, none⟩ = some (.slice A1 kn c1) := (f_x).cell 1
  have x_2 : w_4.cell? ⟨w_2.heap.size, 2, none⟩ = some (.slice A2 vn c2) := (f_x).cell 2
  have x_3 : w_4.cell? ⟨w_2.heap.size, 3, none⟩ = some (.slice A3 cn c3) := (f_x).cell 3
  have x_f0 := (f_x).frozen 0
  have x_f1 := (f_x).frozen 1
  have x_f2 := (f_x).frozen 2
  have x_f3 := (f_x).frozen 3
  have x_l := (f_x).lt
  replace f_x := Lib.hid f_x
  replace hB_4 := Lib.hid hB_4
  go_upto_region 6 with fail
  have qv : ∀ d, (convert 29 9 (.slice none 0 0)).run Try.prog (Grow w_4 d) = .ok (.string { data := #[] }) (Grow w_4 d) := fun d => conv8 (d := fun _ => 0) SlIs.nil 0
  first | (with_reducible refine rgrow2 (by kernel_rfl) (by kernel_rfl) ?_) | (refine rgrow (by kernel_rfl) (by kernel_rfl) ?_)
  repeat (go_big_quiet_step (((first | (go_at_call 10; exact grow_call (HI.out _ (bel_eld hB_4.out (grow_below _ _)))) | (go_at_call 19; exact grow_call (HJ.out A1 c1 A2 c2 A3 c3 _ (s_1.out.below (grow_below _ _)) (s_2.out.below (grow_below _ _)) (s_3.out.below (grow_below _ _))))))))
  refine wpQuiet_nil ?_
  intro dr
  clear qv
  go_wp2_with fail
  refine (RX.out _).mono ?_
  rintro e w_5 ⟨rfl, hb_5⟩
  have z_5 := hb_5.size
  try simp at z_5
  have t_ := hB_4.out
  have hB_5 := bel_eld (w := w) (X := _) (by first | ((repeat (first | with_reducible exact Below.refl _ _ | with_reducible assumption | (with_reducible refine bel_set ?_ (by first | exact Nat.le_refl _ | (simp; done) | (simp; omega) | omega) _) | with_reducible refine bel_grow ?_ _ | with_reducible refine Below.drew ?_ | with_reducible refine below_drewN ?_ _ | with_reducible refine bel_alloc ?_ _ | with_reducible refine bel_trans ?_ (by assumption))); done) | (repeat (first | exact Below.refl _ _ | assumption | refine below_drewN ?_ _ | refine bel_grow ?_ _ | refine Below.drew ?_ | refine bel_alloc ?_ _ | refine bel_set ?_ (by first | exact Nat.le_refl _ | (simp; done) | (simp; omega) | omega) _ | refine bel_trans ?_ (by assumption)))) hb_5
  clear t_
  have hP_ := bel_eld (w := w_4) (X := _) (by first | ((repeat (first | with_reducible exact Below.refl _ _ | with_reducible assumption | (with_reducible refine bel_set ?_ (by first | exact Nat.le_refl _ | (simp; done) | (simp; omega) | omega) _) | with_reducible refine bel_grow ?_ _ | with_reducible refine Below.drew ?_ | with_reducible refine below_drewN ?_ _ | with_reducible refine bel_alloc ?_ _ | with_reducible refine bel_trans ?_ (by assumption))); done) | (repeat (first | exact Below.refl _ _ | assumption | refine below_drewN ?_ _ | refine bel_grow ?_ _ | refine Below.drew ?_ | refine bel_alloc ?_ _ | refine bel_set ?_ (by first | exact Nat.le_refl _ | (simp; done) | (simp; omega) | omega) _ | refine bel_trans ?_ (by assumption)))) hb_5
  have k_s_1 := Lib.hid (s_1.out.below hP_)
  clear s_1
  have s_1 := k_s_1
  clear k_s_1
  have k_s_2 := Lib.hid (s_2.out.below hP_)
  clear s_2
  have s_2 := k_s_2
  clear k_s_2
  have k_s_3 := Lib.hid (s_3.out.below hP_)
  clear s_3
  have s_3 := k_s_3
  clear k_s_3
  have t_n := f_n.out
  have t_ww := f_ww.out
  have t_x := f_x.out
  have g_n : Blk w_5 (w.heap.size) 28 #[.bool lf, .slice KA kn kc, .slice VA vn vc, .slice CA cn cc] := Blk.kept t_n hP_
  have g_ww : Blk w_5 (w.heap.size + 1) 45 #[.int .i64 k, .int .i64 v] := Blk.kept t_ww hP_
  have g_x : Blk w_5 (w_2.heap.size) 36 #[.bool lf, .slice A1 kn c1, .slice A2 vn c2, .slice A3 cn c3] := Blk.kept t_x hP_
  clear hP_
  clear f_n n_l n_0 n_1 n_2 n_3 n_f0 n_f1 n_f2 n_f3 f_ww ww_l ww_0 ww_1 ww_f0 ww_f1 f_x x_l x_0 x_1 x_2 x_3 x_f0 x_f1 x_f2 x_f3 t_n t_ww t_x hB_4 hb_5
  have f_n := g_n
  clear g_n
  have f_ww := g_ww
  clear g_ww
  have f_x := g_x
  clear g_x
  have n_0 : w_5.cell? ⟨w.heap.size, 0, none⟩ = some (.bool lf) := (f_n).cell 0
  have n_1 : w_5.cell? ⟨w.heap.size, 1, none⟩ = some (.slice KA kn kc) := (f_n).cell 1
  have n_2 : w_5.cell? ⟨w.heap.size, 2, none⟩ = some (.slice VA vn vc) := (f_n).cell 2
  have n_3 : w_5.cell? ⟨w.heap.size, 3, none⟩ = some (.slice CA cn cc) := (f_n).cell 3
  have n_f0 := (f_n).frozen 0
  have n_f1 := (f_n).frozen 1
  have n_f2 := (f_n).frozen 2
  have n_f3 := (f_n).frozen 3
  have n_l := (f_n).lt
  replace f_n := Lib.hid f_n
  have ww_0 : w_5.cell? ⟨w.heap.size + 1, 0, none⟩ = some (.int .i64 k) := (f_ww).cell 0
  have ww_1 : w_5.cell? ⟨w.heap.size + 1, 1, none⟩ = some (.int .i64 v) := (f_ww).cell 1
  have ww_f0 := (f_ww).frozen 0
  have ww_f1 := (f_ww).frozen 1
  have ww_l := (f_ww).lt
  replace f_ww := Lib.hid f_ww
  have x_0 : w_5.cell? ⟨w_2.heap.size, 0, none⟩ = some (.bool lf) := (f_x).cell 0
  have x_1 : w_5.cell? ⟨w_2.heap.size, 1, none⟩ = some (.slice A1 kn c1) := (f_x).cell 1
  have x_2 : w_5.cell? ⟨w_2.heap.size, 2, none⟩ = some (.slice A2 vn c2) := (f_x).cell 2
  have x_3 : w_5.cell? ⟨w_2.heap.size, 3, none⟩ = some (.slice A3 cn c3) := (f_x).cell 3
  have x_f0 := (f_x).frozen 0
  have x_f1 := (f_x).frozen 1
  have x_f2 := (f_x).frozen 2
  have x_f3 := (f_x).frozen 3
  have x_l := (f_x).lt
  replace f_x := Lib.hid f_x
  replace hB_5 := Lib.hid hB_5
  go_wp2_with fail
  go_ret
  exact ⟨rfl, hB_5.out⟩

set_option maxRecDepth 8000 in
set_option maxHeartbeats 8000000 in
theorem nodeWrites_leaf (KA VA CA : Option Addr) (kn kc vc cc : Nat) (KL VL : Nat → Nat) (K V : Nat → Nat → Int) (C : Nat → Int) (k v : Nat) (w : World) (hg : greatB ⟨true, kn, KL, K, kn, VL, V, 0, C⟩ = false) (hKb : ∀ i j, 0 ≤ K i j ∧ K i j < 256) (hVb : ∀ i j, 0 ≤ V i j ∧ V i j < 256) (hCb : ∀ i, 0 ≤ C i ∧ C i < 4294967296) (hK : RsIs w KA kn KL K) (hV : RsIs w VA kn VL V) (hC : SlIs w CA 0 (fun j => .int .u32 (C j))) (hr : rightB ⟨true, kn, KL, K, kn, VL, V, 0, C⟩ k v = true) :
    Calls Try.prog 5 #[.agg #[.bool true, .slice KA kn kc, .slice VA kn vc, .slice CA 0 cc], .agg #[.int .i64 k, .int .i64 v]] w fun r w' => r = .returned (.bool true) ∧ Below w.heap.size w w' := by
  obtain ⟨hcap, fK, fV, _, fL, _⟩ := right_facts hr
  obtain ⟨_, l1, _, l4⟩ := fL rfl
  simp only [Int.toNat_natCast] at fK fV l4
  dsimp only at l1 l4 fK fV
  obtain ⟨_, _, _, _⟩ := hcap
  obtain ⟨q1, q2, q3, q4, q5⟩ := great_no hg
  dsimp only at q1 q2 q3 q4 q5
  have hL : ∀ i, i < kn → KL i ≤ 1000000 := fun i hi => Nat.le_trans (q4 i hi) (by omega)
  have HG := fun W (hb : Below w.heap.size w W) => great_any true KA VA CA kn kc kn vc 0 cc KL VL K V C W (by unfold maxLen; omega) (by unfold maxLen; omega) (by unfold maxLen; omega) (hK.below hb) (hV.below hb)
  rw [hg] at HG
  replace HG := Lib.hid HG
  have HO := Lib.hid (fun W (hb : Below w.heap.size w W) => of_any true KA VA CA kn kc kn vc 0 cc KL VL K V C W (by omega) (by omega) (by omega) (hK.below hb) (hV.below hb) (hC.below hb))
  have hNd : ∀ W, Below w.heap.size w W → NdIs W KA VA CA ⟨true, kn, KL, K, kn, VL, V, 0, C⟩ := fun W hb => ⟨hK.below hb, hV.below hb, hC.below hb, by show kn ≤ 1000000; omega, by show kn ≤ 1000000; omega, by show 0 ≤ 1000000; omega⟩
  have HI := fun W (hb : Below w.heap.size w W) => right_any true KA VA CA kn kc kn vc 0 cc KL VL K V C k v W (hNd W hb)
  have HJ := fun A1 c1 A2 c2 A3 c3 W (h1 : SlIs W A1 kn (sV KL K)) (h2 : SlIs W A2 kn (sV VL V)) (h3 : SlIs W A3 0 (fun j => .int .u32 (C j))) => refright_any true A1 A2 A3 kn c1 kn c2 0 c3 KL VL K V C k v W (by omega) (by omega) (by omega) hL hKb h1 h2 h3
  rw [hr] at HI HJ
  replace HI := Lib.hid HI
  replace HJ := Lib.hid HJ
  have RX := Lib.hid (fun w => nfixed_any w)
  have hb0 := Below.refl w.heap.size w
  obtain ⟨D, hD⟩ : ∃ D, D = leafF k v kn K V := ⟨_, rfl⟩
  obtain ⟨l, hl⟩ : ∃ l, l = 2 + kn * (k + v) := ⟨_, rfl⟩
  have HW := fun W (hb : Below w.heap.size w W) => write_leaf KA VA CA kn kc kn vc 0 cc KL VL K V C k v W (hNd W hb) hr
  have HV := fun A1 c1 A2 c2 A3 c3 W (h1 : SlIs W A1 kn (sV KL K)) (h2 : SlIs W A2 kn (sV VL V)) (h3 : SlIs W A3 0 (fun j => .int .u32 (C j))) => refwrite_leaf A1 A2 A3 kn c1 kn c2 0 c3 KL VL K V C k v W (by omega) (by omega) (by omega) hL hKb h1 h2 h3 hr
  have hDb : ∀ i, 0 ≤ D i ∧ D i < 256 := by rw [hD]; exact leafF_ok hKb hVb
  have hcnt : cntY D = kn := by rw [hD]; exact leaf_cnt (by omega)
  rw [← hl, ← hD] at HW HV
  have HRd := fun A c W (h1 : l ≤ c) (h2 : c ≤ maxLen) (hs : SlIs W A l (yV D)) => read_leaf_yes A l c k v D W hDb (by omega) (by omega) (by omega) h1 h2 hs (by rw [hcnt]; omega) (by rw [hcnt, hD]; exact leaf_right hr rfl fK fV)
  rw [hcnt] at HRd
  have hSK : ∀ i, i < kn → sV (fun _ => k) (fun i => shf D (2 + i * (k + v))) i = sV KL K i := fun i hi => sV_congr (fK i hi).symm (fun j hj => by rw [hD]; exact leaf_key i j (by rw [← fK i hi]; exact hj))
  have hSV : ∀ i, i < kn → sV (fun _ => v) (fun i => shf D (2 + (i * (k + v) + k))) i = sV VL V i := fun i hi => sV_congr (fV i hi).symm (fun j hj => by rw [hD]; exact leaf_val i j (by rw [← fV i hi]; exact hj))
  have hSC : ∀ i, i < 0 → (fun _ : Nat => Value.int .u32 0) i = .int .u32 (C i) := fun i hi => absurd hi (by omega)
  replace hSC := Lib.hid hSC
  replace HW := Lib.hid HW
  replace HV := Lib.hid HV
  replace HRd := Lib.hid HRd
  replace hSK := Lib.hid hSK
  replace hSV := Lib.hid hSV
  clear hDb hcnt fK fV fL hD hl l4
  clear hr hg hKb hVb hCb hK hV hC hNd hL q4 q5
  go_enter Try.func5, Try.ntmps5
  replace hb0 := Lib.hid hb0
  go_wp2_with fail
  refine (HG.out _ (bel_alloc (bel_alloc (Below.refl _ _) _) _)).mono ?_
  rintro e w_1 ⟨rfl, hb_1⟩
  have z_1 := hb_1.size
  try simp at z_1
  have t_ := hb0.out
  have hB_1 := bel_eld (w := w) (X := _) (by first | ((repeat (first | with_reducible exact Below.refl _ _ | with_reducible assumption | (with_reducible refine bel_set ?_ (by first | exact Nat.le_refl _ | (simp; done) | (simp; omega) | omega) _) | with_reducible refine bel_grow ?_ _ | with_reducible refine Below.drew ?_ | with_reducible refine below_drewN ?_ _ | with_reducible refine bel_alloc ?_ _ | with_reducible refine bel_trans ?_ (by assumption))); done) | (repeat (first | exact Below.refl _ _ | assumption | refine below_drewN ?_ _ | refine bel_grow ?_ _ | refine Below.drew ?_ | refine bel_alloc ?_ _ | refine bel_set ?_ (by first | exact Nat.le_refl _ | (simp; done) | (simp; omega) | omega) _ | refine bel_trans ?_ (by assumption)))) hb_1
  clear t_
  have g_n : Blk w_1 (w.heap.size) 28 #[.bool true, .slice KA kn kc, .slice VA kn vc, .slice CA 0 cc] := by
    refine Blk.kept ?_ hb_1
    (repeat (first | with_reducible assumption | (with_reducible refine Blk.new' ?_; first | with_reducible rfl | (simp; done)) | with_reducible refine Blk.alloc ?_ _ | with_reducible refine Blk.grow ?_ _ | with_reducible refine Blk.drew ?_ | with_reducible refine Blk.drewN ?_ _ | (with_reducible refine Blk.far ?_ (by first | (dsimp only; omega) | (simp; omega)) _) | (with_reducible apply Blk.two) | (with_reducible refine Blk.set' ?_ _ _ ?_) | (with_reducible rfl) | rfl))
  have g_ww : Blk w_1 (w.heap.size + 1) 45 #[.int .i64 k, .int .i64 v] := by
    refine Blk.kept ?_ hb_1
    (repeat (first | with_reducible assumption | (with_reducible refine Blk.new' ?_; first | with_reducible rfl | (simp; done)) | with_reducible refine Blk.alloc ?_ _ | with_reducible refine Blk.grow ?_ _ | with_reducible refine Blk.drew ?_ | with_reducible refine Blk.drewN ?_ _ | (with_reducible refine Blk.far ?_ (by first | (dsimp only; omega) | (simp; omega)) _) | (with_reducible apply Blk.two) | (with_reducible refine Blk.set' ?_ _ _ ?_) | (with_reducible rfl) | rfl))
  clear hb0 hb_1
  have f_n := g_n
  clear g_n
  have f_ww := g_ww
  clear g_ww
  have n_0 : w_1.cell? ⟨w.heap.size, 0, none⟩ = some (.bool true) := (f_n).cell 0
  have n_1 : w_1.cell? ⟨w.heap.size, 1, none⟩ = some (.slice KA kn kc) := (f_n).cell 1
  have n_2 : w_1.cell? ⟨w.heap.size, 2, none⟩ = some (.slice VA kn vc) := (f_n).cell 2
  have n_3 : w_1.cell? ⟨w.heap.size, 3, none⟩ = some (.slice CA 0 cc) := (f_n).cell 3
  have n_f0 := (f_n).frozen 0
  have n_f1 := (f_n).frozen 1
  have n_f2 := (f_n).frozen 2
  have n_f3 := (f_n).frozen 3
  have n_l := (f_n).lt
  replace f_n := Lib.hid f_n
  have ww_0 : w_1.cell? ⟨w.heap.size + 1, 0, none⟩ = some (.int .i64 k) := (f_ww).cell 0
  have ww_1 : w_1.cell? ⟨w.heap.size + 1, 1, none⟩ = some (.int .i64 v) := (f_ww).cell 1
  have ww_f0 := (f_ww).frozen 0
  have ww_f1 := (f_ww).frozen 1
  have ww_l := (f_ww).lt
  replace f_ww := Lib.hid f_ww
  replace hB_1 := Lib.hid hB_1
  go_wp2_with fail
  refine (HO.out _ (by have t := hB_1.out; first | ((repeat (first | with_reducible exact Below.refl _ _ | with_reducible assumption | (with_reducible refine bel_set ?_ (by first | exact Nat.le_refl _ | (simp; done) | (simp; omega) | omega) _) | with_reducible refine bel_grow ?_ _ | with_reducible refine Below.drew ?_ | with_reducible refine below_drewN ?_ _ | with_reducible refine bel_alloc ?_ _ | with_reducible refine bel_trans ?_ (by assumption))); done) | (repeat (first | exact Below.refl _ _ | assumption | refine below_drewN ?_ _ | refine bel_grow ?_ _ | refine Below.drew ?_ | refine bel_alloc ?_ _ | refine bel_set ?_ (by first | exact Nat.le_refl _ | (simp; done) | (simp; omega) | omega) _ | refine bel_trans ?_ (by assumption))))).mono ?_
  rintro e w_2 ⟨A1, c1, A2, c2, A3, c3, rfl, s_1, s_2, s_3, hb_2⟩
  have z_2 := hb_2.size
  try simp at z_2
  have t_ := hB_1.out
  have hB_2 := bel_eld (w := w) (X := _) (by first | ((repeat (first | with_reducible exact Below.refl _ _ | with_reducible assumption | (with_reducible refine bel_set ?_ (by first | exact Nat.le_refl _ | (simp; done) | (simp; omega) | omega) _) | with_reducible refine bel_grow ?_ _ | with_reducible refine Below.drew ?_ | with_reducible refine below_drewN ?_ _ | with_reducible refine bel_alloc ?_ _ | with_reducible refine bel_trans ?_ (by assumption))); done) | (repeat (first | exact Below.refl _ _ | assumption | refine below_drewN ?_ _ | refine bel_grow ?_ _ | refine Below.drew ?_ | refine bel_alloc ?_ _ | refine bel_set ?_ (by first | exact Nat.le_refl _ | (simp; done) | (simp; omega) | omega) _ | refine bel_trans ?_ (by assumption)))) hb_2
  clear t_
  replace s_1 := Lib.hid s_1
  replace s_2 := Lib.hid s_2
  replace s_3 := Lib.hid s_3
  have t_n := f_n.out
  have t_ww := f_ww.out
  have g_n : Blk w_2 (w.heap.size) 28 #[.bool true, .slice KA kn kc, .slice VA kn vc, .slice CA 0 cc] := by
    refine Blk.kept ?_ hb_2
    (repeat (first | with_reducible assumption | (with_reducible refine Blk.new' ?_; first | with_reducible rfl | (simp; done)) | with_reducible refine Blk.alloc ?_ _ | with_reducible refine Blk.grow ?_ _ | with_reducible refine Blk.drew ?_ | with_reducible refine Blk.drewN ?_ _ | (with_reducible refine Blk.far ?_ (by first | (dsimp only; omega) | (simp; omega)) _) | (with_reducible apply Blk.two) | (with_reducible refine Blk.set' ?_ _ _ ?_) | (with_reducible rfl) | rfl))
  have g_ww : Blk w_2 (w.heap.size + 1) 45 #[.int .i64 k, .int .i64 v] := by
    refine Blk.kept ?_ hb_2
    (repeat (first | with_reducible assumption | (with_reducible refine Blk.new' ?_; first | with_reducible rfl | (simp; done)) | with_reducible refine Blk.alloc ?_ _ | with_reducible refine Blk.grow ?_ _ | with_reducible refine Blk.drew ?_ | with_reducible refine Blk.drewN ?_ _ | (with_reducible refine Blk.far ?_ (by first | (dsimp only; omega) | (simp; omega)) _) | (with_reducible apply Blk.two) | (with_reducible refine Blk.set' ?_ _ _ ?_) | (with_reducible rfl) | rfl))
  clear f_n n_l n_0 n_1 n_2 n_3 n_f0 n_f1 n_f2 n_f3 f_ww ww_l ww_0 ww_1 ww_f0 ww_f1 t_n t_ww hB_1 hb_2
  have f_n := g_n
  clear g_n
  have f_ww := g_ww
  clear g_ww
  have n_0 : w_2.cell? ⟨w.heap.size, 0, none⟩ = some (.bool true) := (f_n).cell 0
  have n_1 : w_2.cell? ⟨w.heap.size, 1, none⟩ = some (.slice KA kn kc) := (f_n).cell 1
  have n_2 : w_2.cell? ⟨w.heap.size, 2, none⟩ = some (.slice VA kn vc) := (f_n).cell 2
  have n_3 : w_2.cell? ⟨w.heap.size, 3, none⟩ = some (.slice CA 0 cc) := (f_n).cell 3
  have n_f0 := (f_n).frozen 0
  have n_f1 := (f_n).frozen 1
  have n_f2 := (f_n).frozen 2
  have n_f3 := (f_n).frozen 3
  have n_l := (f_n).lt
  replace f_n := Lib.hid f_n
  have ww_0 : w_2.cell? ⟨w.heap.size + 1, 0, none⟩ = some (.int .i64 k) := (f_ww).cell 0
  have ww_1 : w_2.cell? ⟨w.heap.size + 1, 1, none⟩ = some (.int .i64 v) := (f_ww).cell 1
  have ww_f0 := (f_ww).frozen 0
  have ww_f1 := (f_ww).frozen 1
  have ww_l := (f_ww).lt
  replace f_ww := Lib.hid f_ww
  replace hB_2 := Lib.hid hB_2
  go_wp2_with fail
  refine (HW.out _ (by have t := hB_2.out; first | ((repeat (first | with_reducible exact Below.refl _ _ | with_reducible assumption | (with_reducible refine bel_set ?_ (by first | exact Nat.le_refl _ | (simp; done) | (simp; omega) | omega) _) | with_reducible refine bel_grow ?_ _ | with_reducible refine Below.drew ?_ | with_reducible refine below_drewN ?_ _ | with_reducible refine bel_alloc ?_ _ | with_reducible refine bel_trans ?_ (by assumption))); done) | (repeat (first | exact Below.refl _ _ | assumption | refine below_drewN ?_ _ | refine bel_grow ?_ _ | refine Below.drew ?_ | refine bel_alloc ?_ _ | refine bel_set ?_ (by first | exact Nat.le_refl _ | (simp; done) | (simp; omega) | omega) _ | refine bel_trans ?_ (by assumption))))).mono ?_
  rintro e w_3 ⟨A, c, rfl, l_1, l_2, s_4, hb_3⟩
  have z_3 := hb_3.size
  try simp at z_3
  have t_ := hB_2.out
  have hB_3 := bel_eld (w := w) (X := _) (by first | ((repeat (first | with_reducible exact Below.refl _ _ | with_reducible assumption | (with_reducible refine bel_set ?_ (by first | exact Nat.le_refl _ | (simp; done) | (simp; omega) | omega) _) | with_reducible refine bel_grow ?_ _ | with_reducible refine Below.drew ?_ | with_reducible refine below_drewN ?_ _ | with_reducible refine bel_alloc ?_ _ | with_reducible refine bel_trans ?_ (by assumption))); done) | (repeat (first | exact Below.refl _ _ | assumption | refine below_drewN ?_ _ | refine bel_grow ?_ _ | refine Below.drew ?_ | refine bel_alloc ?_ _ | refine bel_set ?_ (by first | exact Nat.le_refl _ | (simp; done) | (simp; omega) | omega) _ | refine bel_trans ?_ (by assumption)))) hb_3
  clear t_
  have hP_ := bel_eld (w := w_2) (X := _) (by first | ((repeat (first | with_reducible exact Below.refl _ _ | with_reducible assumption | (with_reducible refine bel_set ?_ (by first | exact Nat.le_refl _ | (simp; done) | (simp; omega) | omega) _) | with_reducible refine bel_grow ?_ _ | with_reducible refine Below.drew ?_ | with_reducible refine below_drewN ?_ _ | with_reducible refine bel_alloc ?_ _ | with_reducible refine bel_trans ?_ (by assumption))); done) | (repeat (first | exact Below.refl _ _ | assumption | refine below_drewN ?_ _ | refine bel_grow ?_ _ | refine Below.drew ?_ | refine bel_alloc ?_ _ | refine bel_set ?_ (by first | exact Nat.le_refl _ | (simp; done) | (simp; omega) | omega) _ | refine bel_trans ?_ (by assumption)))) hb_3
  have k_s_1 := Lib.hid (s_1.out.below hP_)
  clear s_1
  have s_1 := k_s_1
  clear k_s_1
  have k_s_2 := Lib.hid (s_2.out.below hP_)
  clear s_2
  have s_2 := k_s_2
  clear k_s_2
  have k_s_3 := Lib.hid (s_3.out.below hP_)
  clear s_3
  have s_3 := k_s_3
  clear k_s_3
  replace s_4 := Lib.hid s_4
  have t_n := f_n.out
  have t_ww := f_ww.out
  have g_n : Blk w_3 (w.heap.size) 28 #[.bool true, .slice KA kn kc, .slice VA kn vc, .slice CA 0 cc] := Blk.kept t_n hP_
  have g_ww : Blk w_3 (w.heap.size + 1) 45 #[.int .i64 k, .int .i64 v] := Blk.kept t_ww hP_
  have g_x : Blk w_3 (w_2.heap.size) 36 #[.bool true, .slice A1 kn c1, .slice A2 kn c2, .slice A3 0 c3] := by
    refine Blk.kept ?_ hb_3
    (repeat (first | with_reducible assumption | (with_reducible refine Blk.new' ?_; first | with_reducible rfl | (simp; done)) | with_reducible refine Blk.alloc ?_ _ | with_reducible refine Blk.grow ?_ _ | with_reducible refine Blk.drew ?_ | with_reducible refine Blk.drewN ?_ _ | (with_reducible refine Blk.far ?_ (by first | (dsimp only; omega) | (simp; omega)) _) | (with_reducible apply Blk.two) | (with_reducible refine Blk.set' ?_ _ _ ?_) | (with_reducible rfl) | rfl))
  clear hP_
  clear f_n n_l n_0 n_1 n_2 n_3 n_f0 n_f1 n_f2 n_f3 f_ww ww_l ww_0 ww_1 ww_f0 ww_f1 t_n t_ww hB_2 hb_3
  have f_n := g_n
  clear g_n
  have f_ww := g_ww
  clear g_ww
  have f_x := g_x
  clear g_x
  have n_0 : w_3.cell? ⟨w.heap.size, 0, none⟩ = some (.bool true) := (f_n).cell 0
  have n_1 : w_3.cell? ⟨w.heap.size, 1, none⟩ = some (.slice KA kn kc) := (f_n).cell 1
  have n_2 : w_3.cell? ⟨w.heap.size, 2, none⟩ = some (.slice VA kn vc) := (f_n).cell 2
  have n_3 : w_3.cell? ⟨w.heap.size, 3, none⟩ = some (.slice CA 0 cc) := (f_n).cell 3
  have n_f0 := (f_n).frozen 0
  have n_f1 := (f_n).frozen 1
  have n_f2 := (f_n).frozen 2
  have n_f3 := (f_n).frozen 3
  have n_l := (f_n).lt
  replace f_n := Lib.hid f_n
  have ww_0 : w_3.cell? ⟨w.heap.size + 1, 0, none⟩ = some (.int .i64 k) := (f_ww).cell 0
  have ww_1 : w_3.cell? ⟨w.heap.size + 1, 1, none⟩ = some (.int .i64 v) := (f_ww).cell 1
  have ww_f0 := (f_ww).frozen 0
  have ww_f1 := (f_ww).frozen 1
  have ww_l := (f_ww).lt
  replace f_ww := Lib.hid f_ww
  have x_0 : w_3.cell? ⟨w_2.heap.size, 0, none⟩ = some (.bool true) := (f_x).cell 0
  have x_1 : w_3.cell? ⟨w_2.heap.size, 1, none⟩ = some (.slice A1 kn c1) := (f_x).cell 1
  have x_2 : w_3.cell? ⟨w_2.heap.size, 2, none⟩ = some (.slice A2 kn c2) := (f_x).cell 2
  have x_3 : w_3.cell? ⟨w_2.heap.size, 3, none⟩ = some (.slice A3 0 c3) := (f_x).cell 3
  have x_f0 := (f_x).frozen 0
  have x_f1 := (f_x).frozen 1
  have x_f2 := (f_x).frozen 2
  have x_f3 := (f_x).frozen 3
  have x_l := (f_x).lt
  replace f_x := Lib.hid f_x
  replace hB_3 := Lib.hid hB_3
  go_wp2_with fail
  refine (HV.out A1 c1 A2 c2 A3 c3 _ s_1.out s_2.out s_3.out).mono ?_
  rintro e w_4 ⟨rfl, hb_4⟩
  have z_4 := hb_4.size
  try simp at z_4
  have t_ := hB_3.out
  have hB_4 := bel_eld (w := w) (X := _) (by first | ((repeat (first | with_reducible exact Below.refl _ _ | with_reducible assumption | (with_reducible refine bel_set ?_ (by first | exact Nat.le_refl _ | (simp; done) | (simp; omega) | omega) _) | with_reducible refine bel_grow ?_ _ | with_reducible refine Below.drew ?_ | with_reducible refine below_drewN ?_ _ | with_reducible refine bel_alloc ?_ _ | with_reducible refine bel_trans ?_ (by assumption))); done) | (repeat (first | exact Below.refl _ _ | assumption | refine below_drewN ?_ _ | refine bel_grow ?_ _ | refine Below.drew ?_ | refine bel_alloc ?_ _ | refine bel_set ?_ (by first | exact Nat.le_refl _ | (simp; done) | (simp; omega) | omega) _ | refine bel_trans ?_ (by assumption)))) hb_4
  clear t_
  have hP_ := bel_eld (w := w_3) (X := _) (by first | ((repeat (first | with_reducible exact Below.refl _ _ | with_reducible assumption | (with_reducible refine bel_set ?_ (by first | exact Nat.le_refl _ | (simp; done) | (simp; omega) | omega) _) | with_reducible refine bel_grow ?_ _ | with_reducible refine Below.drew ?_ | with_reducible refine below_drewN ?_ _ | with_reducible refine bel_alloc ?_ _ | with_reducible refine bel_trans ?_ (by assumption))); done) | (repeat (first | exact Below.refl _ _ | assumption | refine below_drewN ?_ _ | refine bel_grow ?_ _ | refine Below.drew ?_ | refine bel_alloc ?_ _ | refine bel_set ?_ (by first | exact Nat.le_refl _ | (simp; done) | (simp; omega) | omega) _ | refine bel_trans ?_ (by assumption)))) hb_4
  have k_s_1 := Lib.hid (s_1.out.below hP_)
  clear s_1
  have s_1 := k_s_1
  clear k_s_1
  have k_s_2 := Lib.hid (s_2.out.below hP_)
  clear s_2
  have s_2 := k_s_2
  clear k_s_2
  have k_s_3 := Lib.hid (s_3.out.below hP_)
  clear s_3
  have s_3 := k_s_3
  clear k_s_3
  have k_s_4 := Lib.hid (s_4.out.below hP_)
  clear s_4
  have s_4 := k_s_4
  clear k_s_4
  have t_n := f_n.out
  have t_ww := f_ww.out
  have t_x := f_x.out
  have g_n : Blk w_4 (w.heap.size) 28 #[.bool true, .slice KA kn kc, .slice VA kn vc, .slice CA 0 cc] := Blk.kept t_n hP_
  have g_ww : Blk w_4 (w.heap.size + 1) 45 #[.int .i64 k, .int .i64 v] := Blk.kept t_ww hP_
  have g_x : Blk w_4 (w_2.heap.size) 36 #[.bool true, .slice A1 kn c1, .slice A2 kn c2, .slice A3 0 c3] := Blk.kept t_x hP_
  clear hP_
  clear f_n n_l n_0 n_1 n_2 n_3 n_f0 n_f1 n_f2 n_f3 f_ww ww_l ww_0 ww_1 ww_f0 ww_f1 f_x x_l x_0 x_1 x_2 x_3 x_f0 x_f1 x_f2 x_f3 t_n t_ww t_x hB_3 hb_4
  have f_n := g_n
  clear g_n
  have f_ww := g_ww
  clear g_ww
  have f_x := g_x
  clear g_x
  have n_0 : w_4.cell? ⟨w.heap.size, 0, none⟩ = some (.bool true) := (f_n).cell 0
  have n_1 : w_4.cell? ⟨w.heap.size, 1, none⟩ = some (.slice KA kn kc) := (f_n).cell 1
  have n_2 : w_4.cell? ⟨w.heap.size, 2, none⟩ = some (.slice VA kn vc) := (f_n).cell 2
  have n_3 : w_4.cell? ⟨w.heap.size, 3, none⟩ = some (.slice CA 0 cc) := (f_n).cell 3
  have n_f0 := (f_n).frozen 0
  have n_f1 := (f_n).frozen 1
  have n_f2 := (f_n).frozen 2
  have n_f3 := (f_n).frozen 3
  have n_l := (f_n).lt
  replace f_n := Lib.hid f_n
  have ww_0 : w_4.cell? ⟨w.heap.size + 1, 0, none⟩ = some (.int .i64 k) := (f_ww).cell 0
  have ww_1 : w_4.cell? ⟨w.heap.size + 1, 1, none⟩ = some (.int .i64 v) := (f_ww).cell 1
  have ww_f0 := (f_ww).frozen 0
  have ww_f1 := (f_ww).frozen 1
  have ww_l := (f_ww).lt
  replace f_ww := Lib.hid f_ww
  have x_0 : w_4.cell? ⟨w_2.heap.size, 0, none⟩ = some (.bool true) := (f_x).cell 0
  have x_1 : w_4.cell? ⟨w_2.heap.size, 1, none⟩ = some (.slice A1 kn c1) := (f_x).cell 1
  have x_2 : w_4.cell? ⟨w_2.heap.size, 2, none⟩ = some (.slice A2 kn c2) := (f_x).cell 2
  have x_3 : w_4.cell? ⟨w_2.heap.size, 3, none⟩ = some (.slice A3 0 c3) := (f_x).cell 3
  have x_f0 := (f_x).frozen 0
  have x_f1 := (f_x).frozen 1
  have x_f2 := (f_x).frozen 2
  have x_f3 := (f_x).frozen 3
  have x_l := (f_x).lt
  replace f_x := Lib.hid f_x
  replace hB_4 := Lib.hid hB_4
  go_upto_region 6 with fail
  have qv := fun d => conv8 (s_4.out.below (grow_below w_4 d)) c
  first | (with_reducible refine rgrow2 (by kernel_rfl) (by kernel_rfl) ?_) | (refine rgrow (by kernel_rfl) (by kernel_rfl) ?_)
  repeat (go_big_quiet_step (((first | (go_at_call 10; exact grow_call (HI.out _ (bel_eld hB_4.out (grow_below _ _)))) | (go_at_call 19; exact grow_call (HJ.out A1 c1 A2 c2 A3 c3 _ (s_1.out.below (grow_below _ _)) (s_2.out.below (grow_below _ _)) (s_3.out.below (grow_below _ _))))))))
  refine wpQuiet_nil ?_
  intro dr
  clear qv
  go_wp2_with fail
  refine (HRd.out A c _ l_1 l_2 (s_4.out.below (grow_below _ _))).mono ?_
  rintro e w_5 ⟨B1, b1, B2, b2, rfl, hM, hb_5⟩
  have z_5 := hb_5.size
  try simp at z_5
  have t_ := hB_4.out
  have hB_5 := bel_eld (w := w) (X := _) (by first | ((repeat (first | with_reducible exact Below.refl _ _ | with_reducible assumption | (with_reducible refine bel_set ?_ (by first | exact Nat.le_refl _ | (simp; done) | (simp; omega) | omega) _) | with_reducible refine bel_grow ?_ _ | with_reducible refine Below.drew ?_ | with_reducible refine below_drewN ?_ _ | with_reducible refine bel_alloc ?_ _ | with_reducible refine bel_trans ?_ (by assumption))); done) | (repeat (first | exact Below.refl _ _ | assumption | refine below_drewN ?_ _ | refine bel_grow ?_ _ | refine Below.drew ?_ | refine bel_alloc ?_ _ | refine bel_set ?_ (by first | exact Nat.le_refl _ | (simp; done) | (simp; omega) | omega) _ | refine bel_trans ?_ (by assumption)))) hb_5
  clear t_
  have hP_ := bel_eld (w := w_4) (X := _) (by first | ((repeat (first | with_reducible exact Below.refl _ _ | with_reducible assumption | (with_reducible refine bel_set ?_ (by first | exact Nat.le_refl _ | (simp; done) | (simp; omega) | omega) _) | with_reducible refine bel_grow ?_ _ | with_reducible refine Below.drew ?_ | with_reducible refine below_drewN ?_ _ | with_reducible refine bel_alloc ?_ _ | with_reducible refine bel_trans ?_ (by assumption))); done) | (repeat (first | exact Below.refl _ _ | assumption | refine below_drewN ?_ _ | refine bel_grow ?_ _ | refine Below.drew ?_ | refine bel_alloc ?_ _ | refine bel_set ?_ (by first | exact Nat.le_refl _ | (simp; done) | (simp; omega) | omega) _ | refine bel_trans ?_ (by assumption)))) hb_5
  have k_s_1 := Lib.hid (s_1.out.below hP_)
  clear s_1
  have s_1 := k_s_1
  clear k_s_1
  have k_s_2 := Lib.hid (s_2.out.below hP_)
  clear s_2
  have s_2 := k_s_2
  clear k_s_2
  have k_s_3 := Lib.hid (s_3.out.below hP_)
  clear s_3
  have s_3 := k_s_3
  clear k_s_3
  have k_s_4 := Lib.hid (s_4.out.below hP_)
  clear s_4
  have s_4 := k_s_4
  clear k_s_4
  have t_n := f_n.out
  have t_ww := f_ww.out
  have t_x := f_x.out
  have g_n : Blk w_5 (w.heap.size) 28 #[.bool true, .slice KA kn kc, .slice VA kn vc, .slice CA 0 cc] := Blk.kept t_n hP_
  have g_ww : Blk w_5 (w.heap.size + 1) 45 #[.int .i64 k, .int .i64 v] := Blk.kept t_ww hP_
  have g_x : Blk w_5 (w_2.heap.size) 36 #[.bool true, .slice A1 kn c1, .slice A2 kn c2, .slice A3 0 c3] := Blk.kept t_x hP_
  clear hP_
  clear f_n n_l n_0 n_1 n_2 n_3 n_f0 n_f1 n_f2 n_f3 f_ww ww_l ww_0 ww_1 ww_f0 ww_f1 f_x x_l x_0 x_1 x_2 x_3 x_f0 x_f1 x_f2 x_f3 t_n t_ww t_x hB_4 hb_5
  have f_n := g_n
  clear g_n
  have f_ww := g_ww
  clear g_ww
  have f_x := g_x
  clear g_x
  have n_0 : w_5.cell? ⟨w.heap.size, 0, none⟩ = some (.bool true) := (f_n).cell 0
  have n_1 : w_5.cell? ⟨w.heap.size, 1, none⟩ = some (.slice KA kn kc) := (f_n).cell 1
  have n_2 : w_5.cell? ⟨w.heap.size, 2, none⟩ = some (.slice VA kn vc) := (f_n).cell 2
  have n_3 : w_5.cell? ⟨w.heap.size, 3, none⟩ = some (.slice CA 0 cc) := (f_n).cell 3
  have n_f0 := (f_n).frozen 0
  have n_f1 := (f_n).frozen 1
  have n_f2 := (f_n).frozen 2
  have n_f3 := (f_n).frozen 3
  have n_l := (f_n).lt
  replace f_n := Lib.hid f_n
  have ww_0 : w_5.cell? ⟨w.heap.size + 1, 0, none⟩ = some (.int .i64 k) := (f_ww).cell 0
  have ww_1 : w_5.cell? ⟨w.heap.size + 1, 1, none⟩ = some (.int .i64 v) := (f_ww).cell 1
  have ww_f0 := (f_ww).frozen 0
  have ww_f1 := (f_ww).frozen 1
  have ww_l := (f_ww).lt
  replace f_ww := Lib.hid f_ww
  have x_0 : w_5.cell? ⟨w_2.heap.size, 0, none⟩ = some (.bool true) := (f_x).cell 0
  have x_1 : w_5.cell? ⟨w_2.heap.size, 1, none⟩ = some (.slice A1 kn c1) := (f_x).cell 1
  have x_2 : w_5.cell? ⟨w_2.heap.size, 2, none⟩ = some (.slice A2 kn c2) := (f_x).cell 2
  have x_3 : w_5.cell? ⟨w_2.heap.size, 3, none⟩ = some (.slice A3 0 c3) := (f_x).cell 3
  have x_f0 := (f_x).frozen 0
  have x_f1 := (f_x).frozen 1
  have x_f2 := (f_x).frozen 2
  have x_f3 := (f_x).frozen 3
  have x_l := (f_x).lt
  replace f_x := Lib.hid f_x
  replace hB_5 := Lib.hid hB_5
  go_upto_region 11 with fail
  have hbX := bel_alloc (Below.refl w_5.heap.size w_5) (.cells #[.bool true, .slice B1 kn b1, .slice B2 kn b2, .slice none 0 0] 28)
  have gm : Blk (w_5.alloc (.cells #[.bool true, .slice B1 kn b1, .slice B2 kn b2, .slice none 0 0] 28)) w_5.heap.size 28 #[.bool true, .slice B1 kn b1, .slice B2 kn b2, .slice none 0 0] := Blk.new _ _ _
  have gx := f_x.out.kept hbX
  have k_1 := s_1.out.below hbX
  have k_2 := s_2.out.below hbX
  have k_3 := s_3.out.below hbX
  have kB := bel_eld hB_5.out hbX
  have kM := hM.below hbX
  clear n_0 n_1 n_2 n_3 n_f0 n_f1 n_f2 n_f3 n_l ww_0 ww_1 ww_f0 ww_f1 ww_l x_0 x_1 x_2 x_3 x_f0 x_f1 x_f2 x_f3 x_l f_n f_x f_ww hbX s_1 s_2 s_3 s_4 hM
  generalize w_5.alloc (.cells #[.bool true, .slice B1 kn b1, .slice B2 kn b2, .slice none 0 0] 28) = X at *
  have HOm := Lib.hid (fun d => of_any true B1 B2 none kn b1 kn b2 0 0 (fun _ => k) (fun _ => v) (fun i => shf D (2 + i * (k + v))) (fun i => shf D (2 + (i * (k + v) + k))) (fun _ => 0) (Grow X d) (by omega) (by omega) (by omega) (kM.1.below (grow_below X d)) (kM.2.1.below (grow_below X d)) (kM.2.2.1.below (grow_below X d)))
  have HSm := Lib.hid (fun d E1 e1 E2 e2 E3 e3 h1 h2 h3 => same_yes true E1 E2 E3 A1 A2 A3 kn e1 c1 kn e2 c2 0 e3 c3 KL VL K V C (Grow X d) (by omega) (by omega) (by omega) h1 h2 h3 (k_1.below (grow_below X d)) (k_2.below (grow_below X d)) (k_3.below (grow_below X d)))
  clear kM k_1 k_2 k_3
  replace kB := Lib.hid kB
  have m0 := (gm).cell 0
  have m1 := (gm).cell 1
  have m2 := (gm).cell 2
  have m3 := (gm).cell 3
  have mf0 := (gm).frozen 0
  have mf1 := (gm).frozen 1
  have mf2 := (gm).frozen 2
  have mf3 := (gm).frozen 3
  have ml := (gm).lt
  have x0 := (gx).cell 0
  have x1 := (gx).cell 1
  have x2 := (gx).cell 2
  have x3 := (gx).cell 3
  have xf0 := (gx).frozen 0
  have xf1 := (gx).frozen 1
  have xf2 := (gx).frozen 2
  have xf3 := (gx).frozen 3
  have xl := (gx).lt
  clear gm gx
  go_region_with (first
    | (go_at_call 9; (with_reducible refine (gro_d (RX.out _)).mono ?_); rintro e9 w9 ⟨rfl, d9, rfl⟩)
    | (go_at_call 12; refine (HOm.out _).mono ?_; rintro e8 w8 ⟨E1, e1, E2, e2, E3, e3, rfl, p1, p2, p3, hb8⟩; obtain ⟨d8, hd8⟩ : ∃ d, w8 = Grow X d := ⟨w8, grow_of ((grow_below _ _).trans (hb8.mono (grow_size _ _)))⟩; clear hb8; subst hd8; replace p1 := Lib.hid (p1.congr hSK.out); replace p2 := Lib.hid (p2.congr hSV.out); replace p3 := Lib.hid (p3.congr hSC.out))
    | (go_at_call 21; refine (HSm.out _ _ _ _ _ _ _ p1.out p2.out p3.out).mono ?_; rintro e7 w7 ⟨rfl, hb7⟩; obtain ⟨d7, hd7⟩ : ∃ d, w7 = Grow X d := ⟨w7, grow_of ((grow_below _ _).trans (hb7.mono (grow_size _ _)))⟩; clear hb7; subst hd7))
  all_goals (
    go_wp2_with fail
    go_ret
    exact ⟨rfl, bel_grow kB.out _⟩)

set_option maxRecDepth 8000 in
set_option maxHeartbeats 8000000 in
theorem nodeWrites_inner (KA VA CA : Option Addr) (kn kc vc cc : Nat) (KL VL : Nat → Nat) (K V : Nat → Nat → Int) (C : Nat → Int) (k v : Nat) (w : World) (hg : greatB ⟨false, kn, KL, K, 0, VL, V, (kn + 1), C⟩ = false) (hKb : ∀ i j, 0 ≤ K i j ∧ K i j < 256) (hVb : ∀ i j, 0 ≤ V i j ∧ V i j < 256) (hCb : ∀ i, 0 ≤ C i ∧ C i < 4294967296) (hK : RsIs w KA kn KL K) (hV : RsIs w VA 0 VL V) (hC : SlIs w CA (kn + 1) (fun j => .int .u32 (C j))) (hr : rightB ⟨false, kn, KL, K, 0, VL, V, (kn + 1), C⟩ k v = true) :
    Calls Try.prog 5 #[.agg #[.bool false, .slice KA kn kc, .slice VA 0 vc, .slice CA (kn + 1) cc], .agg #[.int .i64 k, .int .i64 v]] w fun r w' => r = .returned (.bool true) ∧ Below w.heap.size w w' := by
  obtain ⟨hcap, fK, _, _, _, fI⟩ := right_facts hr
  obtain ⟨z1, l1, z3, l4, z5⟩ := fI rfl
  clear z1 z3 z5
  simp only [Int.toNat_natCast] at fK l4
  dsimp only at l1 l4 fK
  obtain ⟨_, _, _, _⟩ := hcap
  obtain ⟨q1, q2, q3, q4, q5⟩ := great_no hg
  dsimp only at q1 q2 q3 q4 q5
  have hL : ∀ i, i < kn → KL i ≤ 1000000 := fun i hi => Nat.le_trans (q4 i hi) (by omega)
  have HG := fun W (hb : Below w.heap.size w W) => great_any false KA VA CA kn kc 0 vc (kn + 1) cc KL VL K V C W (by unfold maxLen; omega) (by unfold maxLen; omega) (by unfold maxLen; omega) (hK.below hb) (hV.below hb)
  rw [hg] at HG
  replace HG := Lib.hid HG
  have HO := Lib.hid (fun W (hb : Below w.heap.size w W) => of_any false KA VA CA kn kc 0 vc (kn + 1) cc KL VL K V C W (by omega) (by omega) (by omega) (hK.below hb) (hV.below hb) (hC.below hb))
  have hNd : ∀ W, Below w.heap.size w W → NdIs W KA VA CA ⟨false, kn, KL, K, 0, VL, V, (kn + 1), C⟩ := fun W hb => ⟨hK.below hb, hV.below hb, hC.below hb, by show kn ≤ 1000000; omega, by show 0 ≤ 1000000; omega, by show (kn + 1) ≤ 1000000; omega⟩
  have HI := fun W (hb : Below w.heap.size w W) => right_any false KA VA CA kn kc 0 vc (kn + 1) cc KL VL K V C k v W (hNd W hb)
  have HJ := fun A1 c1 A2 c2 A3 c3 W (h1 : SlIs W A1 kn (sV KL K)) (h2 : SlIs W A2 0 (sV VL V)) (h3 : SlIs W A3 (kn + 1) (fun j => .int .u32 (C j))) => refright_any false A1 A2 A3 kn c1 0 c2 (kn + 1) c3 KL VL K V C k v W (by omega) (by omega) (by omega) hL hKb h1 h2 h3
  rw [hr] at HI HJ
  replace HI := Lib.hid HI
  replace HJ := Lib.hid HJ
  have RX := Lib.hid (fun w => nfixed_any w)
  have hb0 := Below.refl w.heap.size w
  obtain ⟨D, hD⟩ : ∃ D, D = innF k (kn + 1) K C := ⟨_, rfl⟩
  obtain ⟨l, hl⟩ : ∃ l, l = 2 + (kn + 1) * 4 + kn * k := ⟨_, rfl⟩
  have HW := fun W (hb : Below w.heap.size w W) => write_inner KA VA CA kn kc 0 vc (kn + 1) cc KL VL K V C k v W hCb (hNd W hb) hr
  have HV := fun A1 c1 A2 c2 A3 c3 W (h1 : SlIs W A1 kn (sV KL K)) (h2 : SlIs W A2 0 (sV VL V)) (h3 : SlIs W A3 (kn + 1) (fun j => .int .u32 (C j))) => refwrite_inner A1 A2 A3 kn c1 0 c2 (kn + 1) c3 KL VL K V C k v W (by omega) (by omega) (by omega) hL hKb hCb h1 h2 h3 hr
  have hDb : ∀ i, 0 ≤ D i ∧ D i < 256 := by rw [hD]; exact innF_ok hKb
  have hcnt : cntY D = kn + 1 := by rw [hD]; exact inn_cnt (by omega)
  rw [← hl, ← hD] at HW HV
  have HRd := fun A c W (h1 : l ≤ c) (h2 : c ≤ maxLen) (hs : SlIs W A l (yV D)) => read_inner_yes A l c k v D W hDb (by omega) (by omega) (by omega) h1 h2 hs kn hcnt (by omega) (by rw [hD]; exact inn_right hr rfl fK hCb)
  have hSK : ∀ i, i < kn → sV (fun _ => k) (fun i => shf D (2 + (4 + kn * 4 + i * k))) i = sV KL K i := fun i hi => sV_congr (fK i hi).symm (fun j hj => by rw [hD]; exact inn_key i j (by rw [← fK i hi]; exact hj))
  have hSV : ∀ i, i < 0 → sV (fun _ => 0) (fun _ _ => 0) i = sV VL V i := fun i hi => absurd hi (by omega)
  have hSC : ∀ i, i < kn + 1 → (fun i => Value.int .u32 (num (shf D 2) (i * 4) 4)) i = .int .u32 (C i) := fun i hi => by show Value.int .u32 (num (shf D 2) (i * 4) 4) = _; rw [hD, inn_kid i hi (hCb i)]
  replace hSC := Lib.hid hSC
  replace HW := Lib.hid HW
  replace HV := Lib.hid HV
  replace HRd := Lib.hid HRd
  replace hSK := Lib.hid hSK
  replace hSV := Lib.hid hSV
  clear hDb hcnt fK fI hD hl l4
  clear hr hg hKb hVb hCb hK hV hC hNd hL q4 q5
  go_enter Try.func5, Try.ntmps5
  replace hb0 := Lib.hid hb0
  go_wp2_with fail
  refine (HG.out _ (bel_alloc (bel_alloc (Below.refl _ _) _) _)).mono ?_
  rintro e w_1 ⟨rfl, hb_1⟩
  have z_1 := hb_1.size
  try simp at z_1
  have t_ := hb0.out
  have hB_1 := bel_eld (w := w) (X := _) (by first | ((repeat (first | with_reducible exact Below.refl _ _ | with_reducible assumption | (with_reducible refine bel_set ?_ (by first | exact Nat.le_refl _ | (simp; done) | (simp; omega) | omega) _) | with_reducible refine bel_grow ?_ _ | with_reducible refine Below.drew ?_ | with_reducible refine below_drewN ?_ _ | with_reducible refine bel_alloc ?_ _ | with_reducible refine bel_trans ?_ (by assumption))); done) | (repeat (first | exact Below.refl _ _ | assumption | refine below_drewN ?_ _ | refine bel_grow ?_ _ | refine Below.drew ?_ | refine bel_alloc ?_ _ | refine bel_set ?_ (by first | exact Nat.le_refl _ | (simp; done) | (simp; omega) | omega) _ | refine bel_trans ?_ (by assumption)))) hb_1
  clear t_
  have g_n : Blk w_1 (w.heap.size) 28 #[.bool false, .slice KA kn kc, .slice VA 0 vc, .slice CA (kn + 1) cc] := by
    refine Blk.kept ?_ hb_1
    (repeat (first | with_reducible assumption | (with_reducible refine Blk.new' ?_; first | with_reducible rfl | (simp; done)) | with_reducible refine Blk.alloc ?_ _ | with_reducible refine Blk.grow ?_ _ | with_reducible refine Blk.drew ?_ | with_reducible refine Blk.drewN ?_ _ | (with_reducible refine Blk.far ?_ (by first | (dsimp only; omega) | (simp; omega)) _) | (with_reducible apply Blk.two) | (with_reducible refine Blk.set' ?_ _ _ ?_) | (with_reducible rfl) | rfl))
  have g_ww : Blk w_1 (w.heap.size + 1) 45 #[.int .i64 k, .int .i64 v] := by
    refine Blk.kept ?_ hb_1
    (repeat (first | with_reducible assumption | (with_reducible refine Blk.new' ?_; first | with_reducible rfl | (simp; done)) | with_reducible refine Blk.alloc ?_ _ | with_reducible refine Blk.grow ?_ _ | with_reducible refine Blk.drew ?_ | with_reducible refine Blk.drewN ?_ _ | (with_reducible refine Blk.far ?_ (by first | (dsimp only; omega) | (simp; omega)) _) | (with_reducible apply Blk.two) | (with_reducible refine Blk.set' ?_ _ _ ?_) | (with_reducible rfl) | rfl))
  clear hb0 hb_1
  have f_n := g_n
  clear g_n
  have f_ww := g_ww
  clear g_ww
  have n_0 : w_1.cell? ⟨w.heap.size, 0, none⟩ = some (.bool false) := (f_n).cell 0
  have n_1 : w_1.cell? ⟨w.heap.size, 1, none⟩ = some (.slice KA kn kc) := (f_n).cell 1
  have n_2 : w_1.cell? ⟨w.heap.size, 2, none⟩ = some (.slice VA 0 vc) := (f_n).cell 2
  have n_3 : w_1.cell? ⟨w.heap.size, 3, none⟩ = some (.slice CA (kn + 1) cc) := (f_n).cell 3
  have n_f0 := (f_n).frozen 0
  have n_f1 := (f_n).frozen 1
  have n_f2 := (f_n).frozen 2
  have n_f3 := (f_n).frozen 3
  have n_l := (f_n).lt
  replace f_n := Lib.hid f_n
  have ww_0 : w_1.cell? ⟨w.heap.size + 1, 0, none⟩ = some (.int .i64 k) := (f_ww).cell 0
  have ww_1 : w_1.cell? ⟨w.heap.size + 1, 1, none⟩ = some (.int .i64 v) := (f_ww).cell 1
  have ww_f0 := (f_ww).frozen 0
  have ww_f1 := (f_ww).frozen 1
  have ww_l := (f_ww).lt
  replace f_ww := Lib.hid f_ww
  replace hB_1 := Lib.hid hB_1
  go_wp2_with fail
  refine (HO.out _ (by have t := hB_1.out; first | ((repeat (first | with_reducible exact Below.refl _ _ | with_reducible assumption | (with_reducible refine bel_set ?_ (by first | exact Nat.le_refl _ | (simp; done) | (simp; omega) | omega) _) | with_reducible refine bel_grow ?_ _ | with_reducible refine Below.drew ?_ | with_reducible refine below_drewN ?_ _ | with_reducible refine bel_alloc ?_ _ | with_reducible refine bel_trans ?_ (by assumption))); done) | (repeat (first | exact Below.refl _ _ | assumption | refine below_drewN ?_ _ | refine bel_grow ?_ _ | refine Below.drew ?_ | refine bel_alloc ?_ _ | refine bel_set ?_ (by first | exact Nat.le_refl _ | (simp; done) | (simp; omega) | omega) _ | refine bel_trans ?_ (by assumption))))).mono ?_
  rintro e w_2 ⟨A1, c1, A2, c2, A3, c3, rfl, s_1, s_2, s_3, hb_2⟩
  have z_2 := hb_2.size
  try simp at z_2
  have t_ := hB_1.out
  have hB_2 := bel_eld (w := w) (X := _) (by first | ((repeat (first | with_reducible exact Below.refl _ _ | with_reducible assumption | (with_reducible refine bel_set ?_ (by first | exact Nat.le_refl _ | (simp; done) | (simp; omega) | omega) _) | with_reducible refine bel_grow ?_ _ | with_reducible refine Below.drew ?_ | with_reducible refine below_drewN ?_ _ | with_reducible refine bel_alloc ?_ _ | with_reducible refine bel_trans ?_ (by assumption))); done) | (repeat (first | exact Below.refl _ _ | assumption | refine below_drewN ?_ _ | refine bel_grow ?_ _ | refine Below.drew ?_ | refine bel_alloc ?_ _ | refine bel_set ?_ (by first | exact Nat.le_refl _ | (simp; done) | (simp; omega) | omega) _ | refine bel_trans ?_ (by assumption)))) hb_2
  clear t_
  replace s_1 := Lib.hid s_1
  replace s_2 := Lib.hid s_2
  replace s_3 := Lib.hid s_3
  have t_n := f_n.out
  have t_ww := f_ww.out
  have g_n : Blk w_2 (w.heap.size) 28 #[.bool false, .slice KA kn kc, .slice VA 0 vc, .slice CA (kn + 1) cc] := by
    refine Blk.kept ?_ hb_2
    (repeat (first | with_reducible assumption | (with_reducible refine Blk.new' ?_; first | with_reducible rfl | (simp; done)) | with_reducible refine Blk.alloc ?_ _ | with_reducible refine Blk.grow ?_ _ | with_reducible refine Blk.drew ?_ | with_reducible refine Blk.drewN ?_ _ | (with_reducible refine Blk.far ?_ (by first | (dsimp only; omega) | (simp; omega)) _) | (with_reducible apply Blk.two) | (with_reducible refine Blk.set' ?_ _ _ ?_) | (with_reducible rfl) | rfl))
  have g_ww : Blk w_2 (w.heap.size + 1) 45 #[.int .i64 k, .int .i64 v] := by
    refine Blk.kept ?_ hb_2
    (repeat (first | with_reducible assumption | (with_reducible refine Blk.new' ?_; first | with_reducible rfl | (simp; done)) | with_reducible refine Blk.alloc ?_ _ | with_reducible refine Blk.grow ?_ _ | with_reducible refine Blk.drew ?_ | with_reducible refine Blk.drewN ?_ _ | (with_reducible refine Blk.far ?_ (by first | (dsimp only; omega) | (simp; omega)) _) | (with_reducible apply Blk.two) | (with_reducible refine Blk.set' ?_ _ _ ?_) | (with_reducible rfl) | rfl))
  clear f_n n_l n_0 n_1 n_2 n_3 n_f0 n_f1 n_f2 n_f3 f_ww ww_l ww_0 ww_1 ww_f0 ww_f1 t_n t_ww hB_1 hb_2
  have f_n := g_n
  clear g_n
  have f_ww := g_ww
  clear g_ww
  have n_0 : w_2.cell? ⟨w.heap.size, 0, none⟩ = some (.bool false) := (f_n).cell 0
  have n_1 : w_2.cell? ⟨w.heap.size, 1, none⟩ = some (.slice KA kn kc) := (f_n).cell 1
  have n_2 : w_2.cell? ⟨w.heap.size, 2, none⟩ = some (.slice VA 0 vc) := (f_n).cell 2
  have n_3 : w_2.cell? ⟨w.heap.size, 3, none⟩ = some (.slice CA (kn + 1) cc) := (f_n).cell 3
  have n_f0 := (f_n).frozen 0
  have n_f1 := (f_n).frozen 1
  have n_f2 := (f_n).frozen 2
  have n_f3 := (f_n).frozen 3
  have n_l := (f_n).lt
  replace f_n := Lib.hid f_n
  have ww_0 : w_2.cell? ⟨w.heap.size + 1, 0, none⟩ = some (.int .i64 k) := (f_ww).cell 0
  have ww_1 : w_2.cell? ⟨w.heap.size + 1, 1, none⟩ = some (.int .i64 v) := (f_ww).cell 1
  have ww_f0 := (f_ww).frozen 0
  have ww_f1 := (f_ww).frozen 1
  have ww_l := (f_ww).lt
  replace f_ww := Lib.hid f_ww
  replace hB_2 := Lib.hid hB_2
  go_wp2_with fail
  refine (HW.out _ (by have t := hB_2.out; first | ((repeat (first | with_reducible exact Below.refl _ _ | with_reducible assumption | (with_reducible refine bel_set ?_ (by first | exact Nat.le_refl _ | (simp; done) | (simp; omega) | omega) _) | with_reducible refine bel_grow ?_ _ | with_reducible refine Below.drew ?_ | with_reducible refine below_drewN ?_ _ | with_reducible refine bel_alloc ?_ _ | with_reducible refine bel_trans ?_ (by assumption))); done) | (repeat (first | exact Below.refl _ _ | assumption | refine below_drewN ?_ _ | refine bel_grow ?_ _ | refine Below.drew ?_ | refine bel_alloc ?_ _ | refine bel_set ?_ (by first | exact Nat.le_refl _ | (simp; done) | (simp; omega) | omega) _ | refine bel_trans ?_ (by assumption))))).mono ?_
  rintro e w_3 ⟨A, c, rfl, l_1, l_2, s_4, hb_3⟩
  have z_3 := hb_3.size
  try simp at z_3
  have t_ := hB_2.out
  have hB_3 := bel_eld (w := w) (X := _) (by first | ((repeat (first | with_reducible exact Below.refl _ _ | with_reducible assumption | (with_reducible refine bel_set ?_ (by first | exact Nat.le_refl _ | (simp; done) | (simp; omega) | omega) _) | with_reducible refine bel_grow ?_ _ | with_reducible refine Below.drew ?_ | with_reducible refine below_drewN ?_ _ | with_reducible refine bel_alloc ?_ _ | with_reducible refine bel_trans ?_ (by assumption))); done) | (repeat (first | exact Below.refl _ _ | assumption | refine below_drewN ?_ _ | refine bel_grow ?_ _ | refine Below.drew ?_ | refine bel_alloc ?_ _ | refine bel_set ?_ (by first | exact Nat.le_refl _ | (simp; done) | (simp; omega) | omega) _ | refine bel_trans ?_ (by assumption)))) hb_3
  clear t_
  have hP_ := bel_eld (w := w_2) (X := _) (by first | ((repeat (first | with_reducible exact Below.refl _ _ | with_reducible assumption | (with_reducible refine bel_set ?_ (by first | exact Nat.le_refl _ | (simp; done) | (simp; omega) | omega) _) | with_reducible refine bel_grow ?_ _ | with_reducible refine Below.drew ?_ | with_reducible refine below_drewN ?_ _ | with_reducible refine bel_alloc ?_ _ | with_reducible refine bel_trans ?_ (by assumption))); done) | (repeat (first | exact Below.refl _ _ | assumption | refine below_drewN ?_ _ | refine bel_grow ?_ _ | refine Below.drew ?_ | refine bel_alloc ?_ _ | refine bel_set ?_ (by first | exact Nat.le_refl _ | (simp; done) | (simp; omega) | omega) _ | refine bel_trans ?_ (by assumption)))) hb_3
  have k_s_1 := Lib.hid (s_1.out.below hP_)
  clear s_1
  have s_1 := k_s_1
  clear k_s_1
  have k_s_2 := Lib.hid (s_2.out.below hP_)
  clear s_2
  have s_2 := k_s_2
  clear k_s_2
  have k_s_3 := Lib.hid (s_3.out.below hP_)
  clear s_3
  have s_3 := k_s_3
  clear k_s_3
  replace s_4 := Lib.hid s_4
  have t_n := f_n.out
  have t_ww := f_ww.out
  have g_n : Blk w_3 (w.heap.size) 28 #[.bool false, .slice KA kn kc, .slice VA 0 vc, .slice CA (kn + 1) cc] := Blk.kept t_n hP_
  have g_ww : Blk w_3 (w.heap.size + 1) 45 #[.int .i64 k, .int .i64 v] := Blk.kept t_ww hP_
  have g_x : Blk w_3 (w_2.heap.size) 36 #[.bool false, .slice A1 kn c1, .slice A2 0 c2, .slice A3 (kn + 1) c3] := by
    refine Blk.kept ?_ hb_3
    (repeat (first | with_reducible assumption | (with_reducible refine Blk.new' ?_; first | with_reducible rfl | (simp; done)) | with_reducible refine Blk.alloc ?_ _ | with_reducible refine Blk.grow ?_ _ | with_reducible refine Blk.drew ?_ | with_reducible refine Blk.drewN ?_ _ | (with_reducible refine Blk.far ?_ (by first | (dsimp only; omega) | (simp; omega)) _) | (with_reducible apply Blk.two) | (with_reducible refine Blk.set' ?_ _ _ ?_) | (with_reducible rfl) | rfl))
  clear hP_
  clear f_n n_l n_0 n_1 n_2 n_3 n_f0 n_f1 n_f2 n_f3 f_ww ww_l ww_0 ww_1 ww_f0 ww_f1 t_n t_ww hB_2 hb_3
  have f_n := g_n
  clear g_n
  have f_ww := g_ww
  clear g_ww
  have f_x := g_x
  clear g_x
  have n_0 : w_3.cell? ⟨w.heap.size, 0, none⟩ = some (.bool false) := (f_n).cell 0
  have n_1 : w_3.cell? ⟨w.heap.size, 1, none⟩ = some (.slice KA kn kc) := (f_n).cell 1
  have n_2 : w_3.cell? ⟨w.heap.size, 2, none⟩ = some (.slice VA 0 vc) := (f_n).cell 2
  have n_3 : w_3.cell? ⟨w.heap.size, 3, none⟩ = some (.slice CA (kn + 1) cc) := (f_n).cell 3
  have n_f0 := (f_n).frozen 0
  have n_f1 := (f_n).frozen 1
  have n_f2 := (f_n).frozen 2
  have n_f3 := (f_n).frozen 3
  have n_l := (f_n).lt
  replace f_n := Lib.hid f_n
  have ww_0 : w_3.cell? ⟨w.heap.size + 1, 0, none⟩ = some (.int .i64 k) := (f_ww).cell 0
  have ww_1 : w_3.cell? ⟨w.heap.size + 1, 1, none⟩ = some (.int .i64 v) := (f_ww).cell 1
  have ww_f0 := (f_ww).frozen 0
  have ww_f1 := (f_ww).frozen 1
  have ww_l := (f_ww).lt
  replace f_ww := Lib.hid f_ww
  have x_0 : w_3.cell? ⟨w_2.heap.size, 0, none⟩ = some (.bool false) := (f_x).cell 0
  have x_1 : w_3.cell? ⟨w_2.heap.size, 1, none⟩ = some (.slice A1 kn c1) := (f_x).cell 1
  have x_2 : w_3.cell? ⟨w_2.heap.size, 2, none⟩ = some (.slice A2 0 c2) := (f_x).cell 2
  have x_3 : w_3.cell? ⟨w_2.heap.size, 3, none⟩ = some (.slice A3 (kn + 1) c3) := (f_x).cell 3
  have x_f0 := (f_x).frozen 0
  have x_f1 := (f_x).frozen 1
  have x_f2 := (f_x).frozen 2
  have x_f3 := (f_x).frozen 3
  have x_l := (f_x).lt
  replace f_x := Lib.hid f_x
  replace hB_3 := Lib.hid hB_3
  go_wp2_with fail
  refine (HV.out A1 c1 A2 c2 A3 c3 _ s_1.out s_2.out s_3.out).mono ?_
  rintro e w_4 ⟨rfl, hb_4⟩
  have z_4 := hb_4.size
  try simp at z_4
  have t_ := hB_3.out
  have hB_4 := bel_eld (w := w) (X := _) (by first | ((repeat (first | with_reducible exact Below.refl _ _ | with_reducible assumption | (with_reducible refine bel_set ?_ (by first | exact Nat.le_refl _ | (simp; done) | (simp; omega) | omega) _) | with_reducible refine bel_grow ?_ _ | with_reducible refine Below.drew ?_ | with_reducible refine below_drewN ?_ _ | with_reducible refine bel_alloc ?_ _ | with_reducible refine bel_trans ?_ (by assumption))); done) | (repeat (first | exact Below.refl _ _ | assumption | refine below_drewN ?_ _ | refine bel_grow ?_ _ | refine Below.drew ?_ | refine bel_alloc ?_ _ | refine bel_set ?_ (by first | exact Nat.le_refl _ | (simp; done) | (simp; omega) | omega) _ | refine bel_trans ?_ (by assumption)))) hb_4
  clear t_
  have hP_ := bel_eld (w := w_3) (X := _) (by first | ((repeat (first | with_reducible exact Below.refl _ _ | with_reducible assumption | (with_reducible refine bel_set ?_ (by first | exact Nat.le_refl _ | (simp; done) | (simp; omega) | omega) _) | with_reducible refine bel_grow ?_ _ | with_reducible refine Below.drew ?_ | with_reducible refine below_drewN ?_ _ | with_reducible refine bel_alloc ?_ _ | with_reducible refine bel_trans ?_ (by assumption))); done) | (repeat (first | exact Below.refl _ _ | assumption | refine below_drewN ?_ _ | refine bel_grow ?_ _ | refine Below.drew ?_ | refine bel_alloc ?_ _ | refine bel_set ?_ (by first | exact Nat.le_refl _ | (simp; done) | (simp; omega) | omega) _ | refine bel_trans ?_ (by assumption)))) hb_4
  have k_s_1 := Lib.hid (s_1.out.below hP_)
  clear s_1
  have s_1 := k_s_1
  clear k_s_1
  have k_s_2 := Lib.hid (s_2.out.below hP_)
  clear s_2
  have s_2 := k_s_2
  clear k_s_2
  have k_s_3 := Lib.hid (s_3.out.below hP_)
  clear s_3
  have s_3 := k_s_3
  clear k_s_3
  have k_s_4 := Lib.hid (s_4.out.below hP_)
  clear s_4
  have s_4 := k_s_4
  clear k_s_4
  have t_n := f_n.out
  have t_ww := f_ww.out
  have t_x := f_x.out
  have g_n : Blk w_4 (w.heap.size) 28 #[.bool false, .slice KA kn kc, .slice VA 0 vc, .slice CA (kn + 1) cc] := Blk.kept t_n hP_
  have g_ww : Blk w_4 (w.heap.size + 1) 45 #[.int .i64 k, .int .i64 v] := Blk.kept t_ww hP_
  have g_x : Blk w_4 (w_2.heap.size) 36 #[.bool false, .slice A1 kn c1, .slice A2 0 c2, .slice A3 (kn + 1) c3] := Blk.kept t_x hP_
  clear hP_
  clear f_n n_l n_0 n_1 n_2 n_3 n_f0 n_f1 n_f2 n_f3 f_ww ww_l ww_0 ww_1 ww_f0 ww_f1 f_x x_l x_0 x_1 x_2 x_3 x_f0 x_f1 x_f2 x_f3 t_n t_ww t_x hB_3 hb_4
  have f_n := g_n
  clear g_n
  have f_ww := g_ww
  clear g_ww
  have f_x := g_x
  clear g_x
  have n_0 : w_4.cell? ⟨w.heap.size, 0, none⟩ = some (.bool false) := (f_n).cell 0
  have n_1 : w_4.cell? ⟨w.heap.size, 1, none⟩ = some (.slice KA kn kc) := (f_n).cell 1
  have n_2 : w_4.cell? ⟨w.heap.size, 2, none⟩ = some (.slice VA 0 vc) := (f_n).cell 2
  have n_3 : w_4.cell? ⟨w.heap.size, 3, none⟩ = some (.slice CA (kn + 1) cc) := (f_n).cell 3
  have n_f0 := (f_n).frozen 0
  have n_f1 := (f_n).frozen 1
  have n_f2 := (f_n).frozen 2
  have n_f3 := (f_n).frozen 3
  have n_l := (f_n).lt
  replace f_n := Lib.hid f_n
  have ww_0 : w_4.cell? ⟨w.heap.size + 1, 0, none⟩ = some (.int .i64 k) := (f_ww).cell 0
  have ww_1 : w_4.cell? ⟨w.heap.size + 1, 1, none⟩ = some (.int .i64 v) := (f_ww).cell 1
  have ww_f0 := (f_ww).frozen 0
  have ww_f1 := (f_ww).frozen 1
  have ww_l := (f_ww).lt
  replace f_ww := Lib.hid f_ww
  have x_0 : w_4.cell? ⟨w_2.heap.size, 0, none⟩ = some (.bool false) := (f_x).cell 0
  have x_1 : w_4.cell? ⟨w_2.heap.size, 1, none⟩ = some (.slice A1 kn c1) := (f_x).cell 1
  have x_2 : w_4.cell? ⟨w_2.heap.size, 2, none⟩ = some (.slice A2 0 c2) := (f_x).cell 2
  have x_3 : w_4.cell? ⟨w_2.heap.size, 3, none⟩ = some (.slice A3 (kn + 1) c3) := (f_x).cell 3
  have x_f0 := (f_x).frozen 0
  have x_f1 := (f_x).frozen 1
  have x_f2 := (f_x).frozen 2
  have x_f3 := (f_x).frozen 3
  have x_l := (f_x).lt
  replace f_x := Lib.hid f_x
  replace hB_4 := Lib.hid hB_4
  go_upto_region 6 with fail
  have qv := fun d => conv8 (s_4.out.below (grow_below w_4 d)) c
  first | (with_reducible refine rgrow2 (by kernel_rfl) (by kernel_rfl) ?_) | (refine rgrow (by kernel_rfl) (by kernel_rfl) ?_)
  repeat (go_big_quiet_step (((first | (go_at_call 10; exact grow_call (HI.out _ (bel_eld hB_4.out (grow_below _ _)))) | (go_at_call 19; exact grow_call (HJ.out A1 c1 A2 c2 A3 c3 _ (s_1.out.below (grow_below _ _)) (s_2.out.below (grow_below _ _)) (s_3.out.below (grow_below _ _))))))))
  refine wpQuiet_nil ?_
  intro dr
  clear qv
  go_wp2_with fail
  refine (HRd.out A c _ l_1 l_2 (s_4.out.below (grow_below _ _))).mono ?_
  rintro e w_5 ⟨B1, b1, B3, b3, rfl, hM, hb_5⟩
  have z_5 := hb_5.size
  try simp at z_5
  have t_ := hB_4.out
  have hB_5 := bel_eld (w := w) (X := _) (by first | ((repeat (first | with_reducible exact Below.refl _ _ | with_reducible assumption | (with_reducible refine bel_set ?_ (by first | exact Nat.le_refl _ | (simp; done) | (simp; omega) | omega) _) | with_reducible refine bel_grow ?_ _ | with_reducible refine Below.drew ?_ | with_reducible refine below_drewN ?_ _ | with_reducible refine bel_alloc ?_ _ | with_reducible refine bel_trans ?_ (by assumption))); done) | (repeat (first | exact Below.refl _ _ | assumption | refine below_drewN ?_ _ | refine bel_grow ?_ _ | refine Below.drew ?_ | refine bel_alloc ?_ _ | refine bel_set ?_ (by first | exact Nat.le_refl _ | (simp; done) | (simp; omega) | omega) _ | refine bel_trans ?_ (by assumption)))) hb_5
  clear t_
  have hP_ := bel_eld (w := w_4) (X := _) (by first | ((repeat (first | with_reducible exact Below.refl _ _ | with_reducible assumption | (with_reducible refine bel_set ?_ (by first | exact Nat.le_refl _ | (simp; done) | (simp; omega) | omega) _) | with_reducible refine bel_grow ?_ _ | with_reducible refine Below.drew ?_ | with_reducible refine below_drewN ?_ _ | with_reducible refine bel_alloc ?_ _ | with_reducible refine bel_trans ?_ (by assumption))); done) | (repeat (first | exact Below.refl _ _ | assumption | refine below_drewN ?_ _ | refine bel_grow ?_ _ | refine Below.drew ?_ | refine bel_alloc ?_ _ | refine bel_set ?_ (by first | exact Nat.le_refl _ | (simp; done) | (simp; omega) | omega) _ | refine bel_trans ?_ (by assumption)))) hb_5
  have k_s_1 := Lib.hid (s_1.out.below hP_)
  clear s_1
  have s_1 := k_s_1
  clear k_s_1
  have k_s_2 := Lib.hid (s_2.out.below hP_)
  clear s_2
  have s_2 := k_s_2
  clear k_s_2
  have k_s_3 := Lib.hid (s_3.out.below hP_)
  clear s_3
  have s_3 := k_s_3
  clear k_s_3
  have k_s_4 := Lib.hid (s_4.out.below hP_)
  clear s_4
  have s_4 := k_s_4
  clear k_s_4
  have t_n := f_n.out
  have t_ww := f_ww.out
  have t_x := f_x.out
  have g_n : Blk w_5 (w.heap.size) 28 #[.bool false, .slice KA kn kc, .slice VA 0 vc, .slice CA (kn + 1) cc] := Blk.kept t_n hP_
  have g_ww : Blk w_5 (w.heap.size + 1) 45 #[.int .i64 k, .int .i64 v] := Blk.kept t_ww hP_
  have g_x : Blk w_5 (w_2.heap.size) 36 #[.bool false, .slice A1 kn c1, .slice A2 0 c2, .slice A3 (kn + 1) c3] := Blk.kept t_x hP_
  clear hP_
  clear f_n n_l n_0 n_1 n_2 n_3 n_f0 n_f1 n_f2 n_f3 f_ww ww_l ww_0 ww_1 ww_f0 ww_f1 f_x x_l x_0 x_1 x_2 x_3 x_f0 x_f1 x_f2 x_f3 t_n t_ww t_x hB_4 hb_5
  have f_n := g_n
  clear g_n
  have f_ww := g_ww
  clear g_ww
  have f_x := g_x
  clear g_x
  have n_0 : w_5.cell? ⟨w.heap.size, 0, none⟩ = some (.bool false) := (f_n).cell 0
  have n_1 : w_5.cell? ⟨w.heap.size, 1, none⟩ = some (.slice KA kn kc) := (f_n).cell 1
  have n_2 : w_5.cell? ⟨w.heap.size, 2, none⟩ = some (.slice VA 0 vc) := (f_n).cell 2
  have n_3 : w_5.cell? ⟨w.heap.size, 3, none⟩ = some (.slice CA (kn + 1) cc) := (f_n).cell 3
  have n_f0 := (f_n).frozen 0
  have n_f1 := (f_n).frozen 1
  have n_f2 := (f_n).frozen 2
  have n_f3 := (f_n).frozen 3
  have n_l := (f_n).lt
  replace f_n := Lib.hid f_n
  have ww_0 : w_5.cell? ⟨w.heap.size + 1, 0, none⟩ = some (.int .i64 k) := (f_ww).cell 0
  have ww_1 : w_5.cell? ⟨w.heap.size + 1, 1, none⟩ = some (.int .i64 v) := (f_ww).cell 1
  have ww_f0 := (f_ww).frozen 0
  have ww_f1 := (f_ww).frozen 1
  have ww_l := (f_ww).lt
  replace f_ww := Lib.hid f_ww
  have x_0 : w_5.cell? ⟨w_2.heap.size, 0, none⟩ = some (.bool false) := (f_x).cell 0
  have x_1 : w_5.cell? ⟨w_2.heap.size, 1, none⟩ = some (.slice A1 kn c1) := (f_x).cell 1
  have x_2 : w_5.cell? ⟨w_2.heap.size, 2, none⟩ = some (.slice A2 0 c2) := (f_x).cell 2
  have x_3 : w_5.cell? ⟨w_2.heap.size, 3, none⟩ = some (.slice A3 (kn + 1) c3) := (f_x).cell 3
  have x_f0 := (f_x).frozen 0
  have x_f1 := (f_x).frozen 1
  have x_f2 := (f_x).frozen 2
  have x_f3 := (f_x).frozen 3
  have x_l := (f_x).lt
  replace f_x := Lib.hid f_x
  replace hB_5 := Lib.hid hB_5
  go_upto_region 11 with fail
  have hbX := bel_alloc (Below.refl w_5.heap.size w_5) (.cells #[.bool false, .slice B1 kn b1, .slice none 0 0, .slice B3 (kn + 1) b3] 28)
  have gm : Blk (w_5.alloc (.cells #[.bool false, .slice B1 kn b1, .slice none 0 0, .slice B3 (kn + 1) b3] 28)) w_5.heap.size 28 #[.bool false, .slice B1 kn b1, .slice none 0 0, .slice B3 (kn + 1) b3] := Blk.new _ _ _
  have gx := f_x.out.kept hbX
  have k_1 := s_1.out.below hbX
  have k_2 := s_2.out.below hbX
  have k_3 := s_3.out.below hbX
  have kB := bel_eld hB_5.out hbX
  have kM := hM.below hbX
  clear n_0 n_1 n_2 n_3 n_f0 n_f1 n_f2 n_f3 n_l ww_0 ww_1 ww_f0 ww_f1 ww_l x_0 x_1 x_2 x_3 x_f0 x_f1 x_f2 x_f3 x_l f_n f_x f_ww hbX s_1 s_2 s_3 s_4 hM
  generalize w_5.alloc (.cells #[.bool false, .slice B1 kn b1, .slice none 0 0, .slice B3 (kn + 1) b3] 28) = X at *
  have HOm := Lib.hid (fun d => of_any false B1 none B3 kn b1 0 0 (kn + 1) b3 (fun _ => k) (fun _ => 0) (fun i => shf D (2 + (4 + kn * 4 + i * k))) (fun _ _ => 0) (fun i => num (shf D 2) (i * 4) 4) (Grow X d) (by omega) (by omega) (by omega) (kM.1.below (grow_below X d)) (kM.2.1.below (grow_below X d)) (kM.2.2.1.below (grow_below X d)))
  have HSm := Lib.hid (fun d E1 e1 E2 e2 E3 e3 h1 h2 h3 => same_yes false E1 E2 E3 A1 A2 A3 kn e1 c1 0 e2 c2 (kn + 1) e3 c3 KL VL K V C (Grow X d) (by omega) (by omega) (by omega) h1 h2 h3 (k_1.below (grow_below X d)) (k_2.below (grow_below X d)) (k_3.below (grow_below X d)))
  clear kM k_1 k_2 k_3
  replace kB := Lib.hid kB
  have m0 := (gm).cell 0
  have m1 := (gm).cell 1
  have m2 := (gm).cell 2
  have m3 := (gm).cell 3
  have mf0 := (gm).frozen 0
  have mf1 := (gm).frozen 1
  have mf2 := (gm).frozen 2
  have mf3 := (gm).frozen 3
  have ml := (gm).lt
  have x0 := (gx).cell 0
  have x1 := (gx).cell 1
  have x2 := (gx).cell 2
  have x3 := (gx).cell 3
  have xf0 := (gx).frozen 0
  have xf1 := (gx).frozen 1
  have xf2 := (gx).frozen 2
  have xf3 := (gx).frozen 3
  have xl := (gx).lt
  clear gm gx
  go_region_with (first
    | (go_at_call 9; (with_reducible refine (gro_d (RX.out _)).mono ?_); rintro e9 w9 ⟨rfl, d9, rfl⟩)
    | (go_at_call 12; refine (HOm.out _).mono ?_; rintro e8 w8 ⟨E1, e1, E2, e2, E3, e3, rfl, p1, p2, p3, hb8⟩; obtain ⟨d8, hd8⟩ : ∃ d, w8 = Grow X d := ⟨w8, grow_of ((grow_below _ _).trans (hb8.mono (grow_size _ _)))⟩; clear hb8; subst hd8; replace p1 := Lib.hid (p1.congr hSK.out); replace p2 := Lib.hid (p2.congr hSV.out); replace p3 := Lib.hid (p3.congr hSC.out))
    | (go_at_call 21; refine (HSm.out _ _ _ _ _ _ _ p1.out p2.out p3.out).mono ?_; rintro e7 w7 ⟨rfl, hb7⟩; obtain ⟨d7, hd7⟩ : ∃ d, w7 = Grow X d := ⟨w7, grow_of ((grow_below _ _).trans (hb7.mono (grow_size _ _)))⟩; clear hb7; subst hd7))
  all_goals (
    go_wp2_with fail
    go_ret
    exact ⟨rfl, bel_grow kB.out _⟩)

theorem nodeWrites_any (lf : Bool) (KA VA CA : Option Addr) (kn kc vn vc cn cc : Nat) (KL VL : Nat → Nat) (K V : Nat → Nat → Int) (C : Nat → Int) (k v : Int) (w : World) (m1 : kn ≤ maxLen) (m2 : vn ≤ maxLen) (m3 : cn ≤ maxLen) (hKb : ∀ i j, 0 ≤ K i j ∧ K i j < 256) (hVb : ∀ i j, 0 ≤ V i j ∧ V i j < 256) (hCb : ∀ i, 0 ≤ C i ∧ C i < 4294967296) (hK : RsIs w KA kn KL K) (hV : RsIs w VA vn VL V) (hC : SlIs w CA cn (fun j => .int .u32 (C j))) :
    Calls Try.prog 5 #[.agg #[.bool lf, .slice KA kn kc, .slice VA vn vc, .slice CA cn cc], .agg #[.int .i64 k, .int .i64 v]] w fun r w' => r = .returned (.bool true) ∧ Below w.heap.size w w' := by
  cases hg : greatB ⟨lf, kn, KL, K, vn, VL, V, cn, C⟩
  · cases hr : rightB ⟨lf, kn, KL, K, vn, VL, V, cn, C⟩ k v
    · exact nodeWrites_no lf KA VA CA kn kc vn vc cn cc KL VL K V C k v w hg hKb hVb hCb hK hV hC hr
    · obtain ⟨hcap, _, _, _, fL, fI⟩ := right_facts hr
      obtain ⟨a, b, rfl, rfl, _, _, _⟩ := cap_nat hcap
      cases lf
      · obtain ⟨e1, _, e3, _⟩ := fI rfl
        dsimp only at e1 e3
        subst e1
        subst e3
        exact nodeWrites_inner KA VA CA kn kc vc cc KL VL K V C a b w hg hKb hVb hCb hK hV hC hr
      · obtain ⟨e1, _, e3, _⟩ := fL rfl
        dsimp only at e1 e3
        subst e1
        subst e3
        exact nodeWrites_leaf KA VA CA vn kc vc cc KL VL K V C a b w hg hKb hVb hCb hK hV hC hr
  · exact nodeWrites_far lf KA VA CA kn kc vn vc cn cc KL VL K V C k v w m1 m2 m3 hK hV hg

end Go.Proofs.Ytbmdnifkjcimcaa
