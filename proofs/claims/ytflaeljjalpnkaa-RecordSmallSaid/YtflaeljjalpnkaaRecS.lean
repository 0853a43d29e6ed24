/-
  RecordSmall, walked.
-/
import Derived.Test.YtflaeljjalpnkaaRecR
import Derived.Test.YtflaeljjalpnkaaRecQ
import Derived.Test.YtflaeljjalpnkaaRecE
namespace Go.Proofs.Ytflaeljjalpnkaa
set_option linter.unusedVariables false
set_option linter.unusedSimpArgs false
open Go.RowKit

set_option maxRecDepth 8000 in
set_option maxHeartbeats 4000000 in
theorem recordSmall_any (xa xb xc xd xe xf ya yb : Int) (ha : 0 ≤ xa ∧ xa < 18446744073709551616) (hb : 0 ≤ xb ∧ xb < 18446744073709551616) (hc : 0 ≤ xc ∧ xc < 18446744073709551616) (hd : 0 ≤ xd ∧ xd < 18446744073709551616) (he : 0 ≤ xe ∧ xe < 4294967296) (hf : 0 ≤ xf ∧ xf < 4294967296) (hya : 0 ≤ ya ∧ ya < 4294967296) (hyb : 0 ≤ yb ∧ yb < 4294967296) (w : World) : Calls Try.prog 4 #[.agg #[.int .u64 xa, .int .u64 xb, .int .u64 xc, .int .u64 xd, .int .u32 xe, .int .u32 xf], .agg #[.int .u32 ya, .int .u32 yb]] w fun r w' =>
      r = .returned (.bool true) ∧ Below w.heap.size w w' := by
  have HF := Lib.hid (fun w => putFilter_any xa xb xc xd xe xf ha hb hc hd he hf w)
  have HR := Lib.hid (fun w => putResult_any ya yb hya hyb w)
  have GF := Lib.hid (fun A c h1 h2 w hs => getFilter_at xa xb xc xd xe xf ha hb hc hd he hf A c h1 h2 w hs)
  have GR := Lib.hid (fun A c h1 h2 w hs => getResult_at ya yb hya hyb A c h1 h2 w hs)
  have RF := Lib.hid (fun w => refFilter_any xa xb xc xd xe xf ha hb hc hd he hf w)
  have RR := Lib.hid (fun w => refResult_any ya yb hya hyb w)
  have RX := Lib.hid (fun w => rfixed_any w)
  clear ha hb hc hd he hf hya hyb
  generalize putFilterD xa xb xc xd xe xf = D at *
  generalize putResultD ya yb = E at *
  have hb0 := Below.refl w.heap.size w
  go_enter Try.func4, Try.ntmps4
  go_upto_region 1 with fail
  go_cut [5, 6] (fun s5 s6 wx => ∃ A1 c1 A2 c2, s5 = .slice A1 40 c1 ∧ s6 = .slice A2 8 c2 ∧ (40 ≤ c1 ∧ c1 ≤ maxLen) ∧ (8 ≤ c2 ∧ c2 ≤ maxLen) ∧ Hid (SlIs wx A1 40 (yV D)) ∧ Hid (SlIs wx A2 8 (yV E)) ∧ Hid (Below w.heap.size w wx) ∧ Hid (Blk wx w.heap.size 41 #[.int .u64 xa, .int .u64 xb, .int .u64 xc, .int .u64 xd, .int .u32 xe, .int .u32 xf]) ∧ Hid (Blk wx (w.heap.size + 1) 44 #[.int .u32 ya, .int .u32 yb]))
  case first =>
    go_region_with
      (first
        | (go_at_call 14; (with_reducible refine (HF.out _).mono ?_); rintro e w1 ⟨v1, rfl, ho1, hb1⟩; obtain ⟨A1, c1, rfl, e1, m1, s1⟩ := ho1.byS; clear ho1; have cb0 : w1.cell? ⟨w.heap.size + 1, 0, none⟩ = some (.int .u32 ya) := keepc hb1 (by simp [go_sem]); have cb1 : w1.cell? ⟨w.heap.size + 1, 1, none⟩ = some (.int .u32 yb) := keepc hb1 (by simp [go_sem]); replace s1 := Lib.hid s1; replace hb1 := Lib.hid hb1)
        | (go_at_call 15; (with_reducible refine (HR.out _).mono ?_); rintro e w2 ⟨v2, rfl, ho2, hb2⟩; obtain ⟨A2, c2, rfl, e2, m2, s2⟩ := ho2.byS; clear ho2; replace s2 := Lib.hid s2; replace hb2 := Lib.hid hb2))
    all_goals (
      go_wp2_with fail
      go_meet
      have hb1' := hb1.out
      have hb2' := hb2.out
      refine ⟨A1, c1, A2, c2, rfl, rfl, ⟨e1, m1⟩, ⟨e2, m2⟩, ?_, ?_, ?_, ?_, ?_⟩
      · exact s1.out.below hb2'
      · exact s2.out
      · show Below _ _ _
        (repeat (first | exact Below.refl _ _ | assumption | refine below_drewN ?_ _ | refine bel_grow ?_ _ | refine Below.drew ?_ | refine bel_alloc ?_ _ | refine bel_set ?_ (by first | exact Nat.le_refl _ | (simp; done) | (simp; omega) | omega) _ | refine bel_trans ?_ (by assumption)))
      · show Blk _ _ _ _
        refine Blk.kept ?_ hb2'
        refine Blk.kept ?_ hb1'
        (repeat (first | with_reducible assumption | (with_reducible refine Blk.new' ?_; first | with_reducible rfl | (simp; done)) | with_reducible refine Blk.alloc ?_ _ | with_reducible refine Blk.grow ?_ _ | with_reducible refine Blk.drew ?_ | with_reducible refine Blk.drewN ?_ _ | (with_reducible refine Blk.far ?_ (by first | (dsimp only; omega) | (simp; omega)) _) | (with_reducible apply Blk.two) | (with_reducible refine Blk.set' ?_ _ _ ?_) | (with_reducible rfl) | rfl))
      · show Blk _ _ _ _
        refine Blk.kept ?_ hb2'
        refine Blk.kept ?_ hb1'
        (repeat (first | with_reducible assumption | (with_reducible refine Blk.new' ?_; first | with_reducible rfl | (simp; done)) | with_reducible refine Blk.alloc ?_ _ | with_reducible refine Blk.grow ?_ _ | with_reducible refine Blk.drew ?_ | with_reducible refine Blk.drewN ?_ _ | (with_reducible refine Blk.far ?_ (by first | (dsimp only; omega) | (simp; omega)) _) | (with_reducible apply Blk.two) | (with_reducible refine Blk.set' ?_ _ _ ?_) | (with_reducible rfl) | rfl)))
  case rest =>
    clear hb0
    obtain ⟨A1, c1, A2, c2, rfl, rfl, ⟨e1, m1⟩, ⟨e2, m2⟩, s_1, s_2, hb0, f_f, f_r⟩ := hcut
    replace s_1 := s_1.out
    replace s_2 := s_2.out
    replace hb0 := hb0.out
    replace f_f := f_f.out
    replace f_r := f_r.out
    replace s_1 := Lib.hid s_1
    replace s_2 := Lib.hid s_2
    have f_0 := (f_f).cell 0
    have f_1 := (f_f).cell 1
    have f_2 := (f_f).cell 2
    have f_3 := (f_f).cell 3
    have f_4 := (f_f).cell 4
    have f_5 := (f_f).cell 5
    have f_f0 := (f_f).frozen 0
    have f_f1 := (f_f).frozen 1
    have f_f2 := (f_f).frozen 2
    have f_f3 := (f_f).frozen 3
    have f_f4 := (f_f).frozen 4
    have f_f5 := (f_f).frozen 5
    have f_l := (f_f).lt
    replace f_f := Lib.hid f_f
    have r_0 := (f_r).cell 0
    have r_1 := (f_r).cell 1
    have r_f0 := (f_r).frozen 0
    have r_f1 := (f_r).frozen 1
    have r_l := (f_r).lt
    replace f_r := Lib.hid f_r
    replace hb0 := Lib.hid hb0
    go_wp2_with fail
    refine (GF.out A1 c1 e1 m1 _ s_1.out).mono ?_
    rintro e w_1 ⟨rfl, hb_1⟩
    have z_1 := hb_1.size
    try simp at z_1
    have t_ := hb0.out
    have hB_1 := bel_eld (w := w) (X := _) (by repeat (first | exact Below.refl _ _ | assumption | refine below_drewN ?_ _ | refine bel_grow ?_ _ | refine Below.drew ?_ | refine bel_alloc ?_ _ | refine bel_set ?_ (by first | exact Nat.le_refl _ | (simp; done) | (simp; omega) | omega) _ | refine bel_trans ?_ (by assumption))) hb_1
    clear t_
    have hP_ := bel_eld (w := wc) (X := _) (by repeat (first | exact Below.refl _ _ | assumption | refine below_drewN ?_ _ | refine bel_grow ?_ _ | refine Below.drew ?_ | refine bel_alloc ?_ _ | refine bel_set ?_ (by first | exact Nat.le_refl _ | (simp; done) | (simp; omega) | omega) _ | refine bel_trans ?_ (by assumption))) hb_1
    have k_s_1 := Lib.hid (s_1.out.below hP_)
    clear s_1
    have s_1 := k_s_1
    clear k_s_1
    have k_s_2 := Lib.hid (s_2.out.below hP_)
    clear s_2
    have s_2 := k_s_2
    clear k_s_2
    clear hP_
    have t_f := f_f.out
    have t_r := f_r.out
    have g_f : Blk w_1 (w.heap.size) 41 #[.int .u64 xa, .int .u64 xb, .int .u64 xc, .int .u64 xd, .int .u32 xe, .int .u32 xf] := by
      refine Blk.kept ?_ hb_1
      (repeat (first | with_reducible assumption | (with_reducible refine Blk.new' ?_; first | with_reducible rfl | (simp; done)) | with_reducible refine Blk.alloc ?_ _ | with_reducible refine Blk.grow ?_ _ | with_reducible refine Blk.drew ?_ | with_reducible refine Blk.drewN ?_ _ | (with_reducible refine Blk.far ?_ (by first | (dsimp only; omega) | (simp; omega)) _) | (with_reducible apply Blk.two) | (with_reducible refine Blk.set' ?_ _ _ ?_) | (with_reducible rfl) | rfl))
    have g_r : Blk w_1 (w.heap.size + 1) 44 #[.int .u32 ya, .int .u32 yb] := by
      refine Blk.kept ?_ hb_1
      (repeat (first | with_reducible assumption | (with_reducible refine Blk.new' ?_; first | with_reducible rfl | (simp; done)) | with_reducible refine Blk.alloc ?_ _ | with_reducible refine Blk.grow ?_ _ | with_reducible refine Blk.drew ?_ | with_reducible refine Blk.drewN ?_ _ | (with_reducible refine Blk.far ?_ (by first | (dsimp only; omega) | (simp; omega)) _) | (with_reducible apply Blk.two) | (with_reducible refine Blk.set' ?_ _ _ ?_) | (with_reducible rfl) | rfl))
    clear f_f f_l f_0 f_1 f_2 f_3 f_4 f_5 f_f0 f_f1 f_f2 f_f3 f_f4 f_f5 f_r r_l r_0 r_1 r_f0 r_f1 t_f t_r hb0 hb_1
    have f_f := g_f
    clear g_f
    have f_r := g_r
    clear g_r
    have f_0 := (f_f).cell 0
    have f_1 := (f_f).cell 1
    have f_2 := (f_f).cell 2
    have f_3 := (f_f).cell 3
    have f_4 := (f_f).cell 4
    have f_5 := (f_f).cell 5
    have f_f0 := (f_f).frozen 0
    have f_f1 := (f_f).frozen 1
    have f_f2 := (f_f).frozen 2
    have f_f3 := (f_f).frozen 3
    have f_f4 := (f_f).frozen 4
    have f_f5 := (f_f).frozen 5
    have f_l := (f_f).lt
    replace f_f := Lib.hid f_f
    have r_0 := (f_r).cell 0
    have r_1 := (f_r).cell 1
    have r_f0 := (f_r).frozen 0
    have r_f1 := (f_r).frozen 1
    have r_l := (f_r).lt
    replace f_r := Lib.hid f_r
    replace hB_1 := Lib.hid hB_1
    go_wp2_with fail
    refine (GR.out A2 c2 e2 m2 _ (s_2.out.below (by have t := hB_1.out; (repeat (first | exact Below.refl _ _ | assumption | refine below_drewN ?_ _ | refine bel_grow ?_ _ | refine Below.drew ?_ | refine bel_alloc ?_ _ | refine bel_set ?_ (by first | exact Nat.le_refl _ | (simp; done) | (simp; omega) | omega) _ | refine bel_trans ?_ (by assumption)))))).mono ?_
    rintro e w_2 ⟨rfl, hb_2⟩
    have z_2 := hb_2.size
    try simp at z_2
    have t_ := hB_1.out
    have hB_2 := bel_eld (w := w) (X := _) (by repeat (first | exact Below.refl _ _ | assumption | refine below_drewN ?_ _ | refine bel_grow ?_ _ | refine Below.drew ?_ | refine bel_alloc ?_ _ | refine bel_set ?_ (by first | exact Nat.le_refl _ | (simp; done) | (simp; omega) | omega) _ | refine bel_trans ?_ (by assumption))) hb_2
    clear t_
    have hP_ := bel_eld (w := w_1) (X := _) (by repeat (first | exact Below.refl _ _ | assumption | refine below_drewN ?_ _ | refine bel_grow ?_ _ | refine Below.drew ?_ | refine bel_alloc ?_ _ | refine bel_set ?_ (by first | exact Nat.le_refl _ | (simp; done) | (simp; omega) | omega) _ | refine bel_trans ?_ (by assumption))) hb_2
    have k_s_1 := Lib.hid (s_1.out.below hP_)
    clear s_1
    have s_1 := k_s_1
    clear k_s_1
    have k_s_2 := Lib.hid (s_2.out.below hP_)
    clear s_2
    have s_2 := k_s_2
    clear k_s_2
    clear hP_
    have t_f := f_f.out
    have t_r := f_r.out
    have g_f : Blk w_2 (w.heap.size) 41 #[.int .u64 xa, .int .u64 xb, .int .u64 xc, .int .u64 xd, .int .u32 xe, .int .u32 xf] := by
      refine Blk.kept ?_ hb_2
      (repeat (first | with_reducible assumption | (with_reducible refine Blk.new' ?_; first | with_reducible rfl | (simp; done)) | with_reducible refine Blk.alloc ?_ _ | with_reducible refine Blk.grow ?_ _ | with_reducible refine Blk.drew ?_ | with_reducible refine Blk.drewN ?_ _ | (with_reducible refine Blk.far ?_ (by first | (dsimp only; omega) | (simp; omega)) _) | (with_reducible apply Blk.two) | (with_reducible refine Blk.set' ?_ _ _ ?_) | (with_reducible rfl) | rfl))
    have g_r : Blk w_2 (w.heap.size + 1) 44 #[.int .u32 ya, .int .u32 yb] := by
      refine Blk.kept ?_ hb_2
      (repeat (first | with_reducible assumption | (with_reducible refine Blk.new' ?_; first | with_reducible rfl | (simp; done)) | with_reducible refine Blk.alloc ?_ _ | with_reducible refine Blk.grow ?_ _ | with_reducible refine Blk.drew ?_ | with_reducible refine Blk.drewN ?_ _ | (with_reducible refine Blk.far ?_ (by first | (dsimp only; omega) | (simp; omega)) _) | (with_reducible apply Blk.two) | (with_reducible refine Blk.set' ?_ _ _ ?_) | (with_reducible rfl) | rfl))
    have g_x : Blk w_2 (w_1.heap.size) 41 #[.int .u64 xa, .int .u64 xb, .int .u64 xc, .int .u64 xd, .int .u32 xe, .int .u32 xf] := by
      refine Blk.kept ?_ hb_2
      (repeat (first | with_reducible assumption | (with_reducible refine Blk.new' ?_; first | with_reducible rfl | (simp; done)) | with_reducible refine Blk.alloc ?_ _ | with_reducible refine Blk.grow ?_ _ | with_reducible refine Blk.drew ?_ | with_reducible refine Blk.drewN ?_ _ | (with_reducible refine Blk.far ?_ (by first | (dsimp only; omega) | (simp; omega)) _) | (with_reducible apply Blk.two) | (with_reducible refine Blk.set' ?_ _ _ ?_) | (with_reducible rfl) | rfl))
    clear f_f f_l f_0 f_1 f_2 f_3 f_4 f_5 f_f0 f_f1 f_f2 f_f3 f_f4 f_f5 f_r r_l r_0 r_1 r_f0 r_f1 t_f t_r hB_1 hb_2
    have f_f := g_f
    clear g_f
    have f_r := g_r
    clear g_r
    have f_x := g_x
    clear g_x
    have f_0 := (f_f).cell 0
    have f_1 := (f_f).cell 1
    have f_2 := (f_f).cell 2
    have f_3 := (f_f).cell 3
    have f_4 := (f_f).cell 4
    have f_5 := (f_f).cell 5
    have f_f0 := (f_f).frozen 0
    have f_f1 := (f_f).frozen 1
    have f_f2 := (f_f).frozen 2
    have f_f3 := (f_f).frozen 3
    have f_f4 := (f_f).frozen 4
    have f_f5 := (f_f).frozen 5
    have f_l := (f_f).lt
    replace f_f := Lib.hid f_f
    have r_0 := (f_r).cell 0
    have r_1 := (f_r).cell 1
    have r_f0 := (f_r).frozen 0
    have r_f1 := (f_r).frozen 1
    have r_l := (f_r).lt
    replace f_r := Lib.hid f_r
    have x_0 := (f_x).cell 0
    have x_1 := (f_x).cell 1
    have x_2 := (f_x).cell 2
    have x_3 := (f_x).cell 3
    have x_4 := (f_x).cell 4
    have x_5 := (f_x).cell 5
    have x_f0 := (f_x).frozen 0
    have x_f1 := (f_x).frozen 1
    have x_f2 := (f_x).frozen 2
    have x_f3 := (f_x).frozen 3
    have x_f4 := (f_x).frozen 4
    have x_f5 := (f_x).frozen 5
    have x_l := (f_x).lt
    replace f_x := Lib.hid f_x
    replace hB_2 := Lib.hid hB_2
    go_upto_region 4 with fail
    have t := hB_2.out
    have t1 := f_f.out
    have t2 := f_r.out
    have t3 := f_x.out
    refine abs_wp (fun X => Below w.heap.size w X ∧ Below w_2.heap.size w_2 X ∧ Blk X w.heap.size 41 #[.int .u64 xa, .int .u64 xb, .int .u64 xc, .int .u64 xd, .int .u32 xe, .int .u32 xf] ∧ Blk X (w.heap.size + 1) 44 #[.int .u32 ya, .int .u32 yb] ∧ Blk X w_1.heap.size 41 #[.int .u64 xa, .int .u64 xb, .int .u64 xc, .int .u64 xd, .int .u32 xe, .int .u32 xf] ∧ Blk X w_2.heap.size 44 #[.int .u32 ya, .int .u32 yb]) ?_ ?_
    · clear t
      refine ⟨?_, ?_, ?_, ?_, ?_, ?_⟩
      · have t := hB_2.out
        (repeat (first | exact Below.refl _ _ | assumption | refine below_drewN ?_ _ | refine bel_grow ?_ _ | refine Below.drew ?_ | refine bel_alloc ?_ _ | refine bel_set ?_ (by first | exact Nat.le_refl _ | (simp; done) | (simp; omega) | omega) _ | refine bel_trans ?_ (by assumption)))
      · (repeat (first | with_reducible exact Below.refl _ _ | with_reducible assumption | (with_reducible refine bel_set ?_ (by first | exact Nat.le_refl _ | (simp; done) | (simp; omega) | omega) _) | with_reducible refine bel_grow ?_ _ | with_reducible refine Below.drew ?_ | with_reducible refine below_drewN ?_ _ | with_reducible refine bel_alloc ?_ _ | with_reducible refine bel_trans ?_ (by assumption)))
      · (repeat (first | with_reducible assumption | (with_reducible refine Blk.new' ?_; first | with_reducible rfl | (simp; done)) | with_reducible refine Blk.alloc ?_ _ | with_reducible refine Blk.grow ?_ _ | with_reducible refine Blk.drew ?_ | with_reducible refine Blk.drewN ?_ _ | (with_reducible refine Blk.far ?_ (by first | (dsimp only; omega) | (simp; omega)) _) | (with_reducible apply Blk.two) | (with_reducible refine Blk.set' ?_ _ _ ?_) | (with_reducible rfl) | rfl))
      · (repeat (first | with_reducible assumption | (with_reducible refine Blk.new' ?_; first | with_reducible rfl | (simp; done)) | with_reducible refine Blk.alloc ?_ _ | with_reducible refine Blk.grow ?_ _ | with_reducible refine Blk.drew ?_ | with_reducible refine Blk.drewN ?_ _ | (with_reducible refine Blk.far ?_ (by first | (dsimp only; omega) | (simp; omega)) _) | (with_reducible apply Blk.two) | (with_reducible refine Blk.set' ?_ _ _ ?_) | (with_reducible rfl) | rfl))
      · (repeat (first | with_reducible assumption | (with_reducible refine Blk.new' ?_; first | with_reducible rfl | (simp; done)) | with_reducible refine Blk.alloc ?_ _ | with_reducible refine Blk.grow ?_ _ | with_reducible refine Blk.drew ?_ | with_reducible refine Blk.drewN ?_ _ | (with_reducible refine Blk.far ?_ (by first | (dsimp only; omega) | (simp; omega)) _) | (with_reducible apply Blk.two) | (with_reducible refine Blk.set' ?_ _ _ ?_) | (with_reducible rfl) | rfl))
      · (repeat (first | with_reducible assumption | (with_reducible refine Blk.new' ?_; first | with_reducible rfl | (simp; done)) | with_reducible refine Blk.alloc ?_ _ | with_reducible refine Blk.grow ?_ _ | with_reducible refine Blk.drew ?_ | with_reducible refine Blk.drewN ?_ _ | (with_reducible refine Blk.far ?_ (by first | (dsimp only; omega) | (simp; omega)) _) | (with_reducible apply Blk.two) | (with_reducible refine Blk.set' ?_ _ _ ?_) | (with_reducible rfl) | rfl))
    rintro X ⟨bX, b2, gf, gr, gx, gy⟩
    clear t t1 t2 t3 f_f f_r f_x f_l r_l x_l f_0 f_1 f_2 f_3 f_4 f_5 f_f0 f_f1 f_f2 f_f3 f_f4 f_f5 r_0 r_1 r_f0 r_f1 x_0 x_1 x_2 x_3 x_4 x_5 x_f0 x_f1 x_f2 x_f3 x_f4 x_f5 hB_2
    have f0 := (gf).cell 0
    have f1 := (gf).cell 1
    have f2 := (gf).cell 2
    have f3 := (gf).cell 3
    have f4 := (gf).cell 4
    have f5 := (gf).cell 5
    have ff0 := (gf).frozen 0
    have ff1 := (gf).frozen 1
    have ff2 := (gf).frozen 2
    have ff3 := (gf).frozen 3
    have ff4 := (gf).frozen 4
    have ff5 := (gf).frozen 5
    have fl := (gf).lt
    have r0 := (gr).cell 0
    have r1 := (gr).cell 1
    have rf0 := (gr).frozen 0
    have rf1 := (gr).frozen 1
    have rl := (gr).lt
    have x0 := (gx).cell 0
    have x1 := (gx).cell 1
    have x2 := (gx).cell 2
    have x3 := (gx).cell 3
    have x4 := (gx).cell 4
    have x5 := (gx).cell 5
    have xf0 := (gx).frozen 0
    have xf1 := (gx).frozen 1
    have xf2 := (gx).frozen 2
    have xf3 := (gx).frozen 3
    have xf4 := (gx).frozen 4
    have xf5 := (gx).frozen 5
    have xl := (gx).lt
    have y0 := (gy).cell 0
    have y1 := (gy).cell 1
    have yf0 := (gy).frozen 0
    have yf1 := (gy).frozen 1
    have yl := (gy).lt
    have q1 := fun d => conv8 ((s_1.out.below b2).below (grow_below X d)) c1
    have q2 := fun d => conv8 ((s_2.out.below b2).below (grow_below X d)) c2
    replace bX := Lib.hid bX
    clear gf gr gx gy b2
    first | (with_reducible refine rgrow2 (by kernel_rfl) (by kernel_rfl) ?_) | (refine rgrow (by kernel_rfl) (by kernel_rfl) ?_)
    repeat (go_big_quiet_step (((first | (go_at_call 13; exact grow_call (RX.out _)) | (go_at_call 18; exact grow_call (RF.out _)) | (go_at_call 19; exact grow_call (RR.out _))))))
    refine wpQuiet_nil ?_
    intro dr
    go_wp2_with fail
    go_ret
    exact ⟨rfl, by have t := bX.out; (repeat (first | exact Below.refl _ _ | assumption | refine below_drewN ?_ _ | refine bel_grow ?_ _ | refine Below.drew ?_ | refine bel_alloc ?_ _ | refine bel_set ?_ (by first | exact Nat.le_refl _ | (simp; done) | (simp; omega) | omega) _ | refine bel_trans ?_ (by assumption)))⟩
end Go.Proofs.Ytflaeljjalpnkaa
