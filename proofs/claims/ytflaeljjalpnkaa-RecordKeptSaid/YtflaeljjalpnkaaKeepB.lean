/-
  The key and value of a balance that is kept: the program's, walked.
-/
import Derived.Test.YtflaeljjalpnkaaKeepA
import Derived.Deep.DeepCutAuto
namespace Go.Proofs.Ytflaeljjalpnkaa
set_option linter.unusedVariables false
set_option linter.unusedSimpArgs false
open Go.RowKit

/-- the value of a balance that is kept: its side, and its balances' bytes -/
def rowD (sd p1 p2 q1 q2 r1 r2 s1 s2 st : Int) : Nat → Int := cat (fun _ => sd) 1 (putBalanceD p1 p2 q1 q2 r1 r2 s1 s2 st)

set_option maxRecDepth 8000 in
set_option maxHeartbeats 4000000 in
theorem keepRow_any (h l p1 p2 q1 q2 r1 r2 s1 s2 st sd : Int) (hh : Wd h) (hl : Wd l) (h1 : Wd p1) (h2 : Wd p2) (h3 : Wd q1) (h4 : Wd q2) (h5 : Wd r1) (h6 : Wd r2) (h7 : Wd s1) (h8 : Wd s2) (h9 : Wd st) (w : World) :
    Calls Try.prog 11 #[.agg #[.int .u64 h, .int .u64 l], .agg #[.int .u64 p1, .int .u64 p2, .int .u64 q1, .int .u64 q2, .int .u64 r1, .int .u64 r2, .int .u64 s1, .int .u64 s2, .int .u64 st, .int .u8 sd]] w fun r w' =>
      ∃ v1 v2, r = .returned (.tuple #[v1, v2]) ∧ ByS w' v1 24 (cat (dgt h l) 16 (nb 8 st)) ∧ ByS w' v2 65 (rowD sd p1 p2 q1 q2 r1 r2 s1 s2 st) ∧ Below w.heap.size w w' := by
  obtain ⟨i0, hi0, hz0, hz1, hz2⟩ := info_parts info_u8
  replace hi0 := Lib.hid hi0
  replace hz0 := Lib.hid hz0
  replace hz1 := Lib.hid hz1
  replace hz2 := Lib.hid hz2
  have H1 := Lib.hid (fun w => pair_any h l st hh hl h9 w)
  have H2 := Lib.hid (fun w => putBalance_any p1 p2 q1 q2 r1 r2 s1 s2 st h1 h2 h3 h4 h5 h6 h7 h8 h9 w)
  clear hh hl h1 h2 h3 h4 h5 h6 h7 h8 h9
  have hb0 := Below.refl w.heap.size w
  unfold rowD
  generalize putBalanceD p1 p2 q1 q2 r1 r2 s1 s2 st = D at *
  go_enter Try.func11, Try.ntmps11
  replace hb0 := Lib.hid hb0
  go_wp2_with fail
  refine (H2.out _).mono ?_
  rintro e w_1 ⟨v_1, rfl, ho_1, hb_1⟩
  have z_1 := hb_1.size
  try simp at z_1
  have t_ := hb0.out
  have hB_1 := bel_eld (w := w) (X := _) (by first | ((repeat (first | with_reducible exact Below.refl _ _ | with_reducible assumption | (with_reducible refine bel_set ?_ (by first | exact Nat.le_refl _ | (simp; done) | (simp; omega) | omega) _) | with_reducible refine bel_grow ?_ _ | with_reducible refine Below.drew ?_ | with_reducible refine below_drewN ?_ _ | with_reducible refine bel_alloc ?_ _ | with_reducible refine bel_trans ?_ (by assumption))); done) | (repeat (first | exact Below.refl _ _ | assumption | refine below_drewN ?_ _ | refine bel_grow ?_ _ | refine Below.drew ?_ | refine bel_alloc ?_ _ | refine bel_set ?_ (by first | exact Nat.le_refl _ | (simp; done) | (simp; omega) | omega) _ | refine bel_trans ?_ (by assumption)))) hb_1
  clear t_
  have g_a : Blk w_1 (w.heap.size) 24 #[.int .u64 h, .int .u64 l] := by
    refine Blk.kept ?_ hb_1
    (repeat (first | with_reducible assumption | (with_reducible refine Blk.new' ?_; first | with_reducible rfl | (simp; done)) | with_reducible refine Blk.alloc ?_ _ | with_reducible refine Blk.grow ?_ _ | with_reducible refine Blk.drew ?_ | with_reducible refine Blk.drewN ?_ _ | (with_reducible refine Blk.far ?_ (by first | (dsimp only; omega) | (simp; omega)) _) | (with_reducible apply Blk.two) | (with_reducible refine Blk.set' ?_ _ _ ?_) | (with_reducible rfl) | rfl))
  have g_r : Blk w_1 (w.heap.size + 1) 30 #[.int .u64 p1, .int .u64 p2, .int .u64 q1, .int .u64 q2, .int .u64 r1, .int .u64 r2, .int .u64 s1, .int .u64 s2, .int .u64 st, .int .u8 sd] := by
    refine Blk.kept ?_ hb_1
    (repeat (first | with_reducible assumption | (with_reducible refine Blk.new' ?_; first | with_reducible rfl | (simp; done)) | with_reducible refine Blk.alloc ?_ _ | with_reducible refine Blk.grow ?_ _ | with_reducible refine Blk.drew ?_ | with_reducible refine Blk.drewN ?_ _ | (with_reducible refine Blk.far ?_ (by first | (dsimp only; omega) | (simp; omega)) _) | (with_reducible apply Blk.two) | (with_reducible refine Blk.set' ?_ _ _ ?_) | (with_reducible rfl) | rfl))
  clear hb0 hb_1
  have f_a := g_a
  clear g_a
  have f_r := g_r
  clear g_r
  have a_0 : w_1.cell? ⟨w.heap.size, 0, none⟩ = some (.int .u64 h) := (f_a).cell 0
  have a_1 : w_1.cell? ⟨w.heap.size, 1, none⟩ = some (.int .u64 l) := (f_a).cell 1
  have a_f0 := (f_a).frozen 0
  have a_f1 := (f_a).frozen 1
  have a_l := (f_a).lt
  replace f_a := Lib.hid f_a
  have r_0 : w_1.cell? ⟨w.heap.size + 1, 0, none⟩ = some (.int .u64 p1) := (f_r).cell 0
  have r_1 : w_1.cell? ⟨w.heap.size + 1, 1, none⟩ = some (.int .u64 p2) := (f_r).cell 1
  have r_2 : w_1.cell? ⟨w.heap.size + 1, 2, none⟩ = some (.int .u64 q1) := (f_r).cell 2
  have r_3 : w_1.cell? ⟨w.heap.size + 1, 3, none⟩ = some (.int .u64 q2) := (f_r).cell 3
  have r_4 : w_1.cell? ⟨w.heap.size + 1, 4, none⟩ = some (.int .u64 r1) := (f_r).cell 4
  have r_5 : w_1.cell? ⟨w.heap.size + 1, 5, none⟩ = some (.int .u64 r2) := (f_r).cell 5
  have r_6 : w_1.cell? ⟨w.heap.size + 1, 6, none⟩ = some (.int .u64 s1) := (f_r).cell 6
  have r_7 : w_1.cell? ⟨w.heap.size + 1, 7, none⟩ = some (.int .u64 s2) := (f_r).cell 7
  have r_8 : w_1.cell? ⟨w.heap.size + 1, 8, none⟩ = some (.int .u64 st) := (f_r).cell 8
  have r_9 : w_1.cell? ⟨w.heap.size + 1, 9, none⟩ = some (.int .u8 sd) := (f_r).cell 9
  have r_f0 := (f_r).frozen 0
  have r_f1 := (f_r).frozen 1
  have r_f2 := (f_r).frozen 2
  have r_f3 := (f_r).frozen 3
  have r_f4 := (f_r).frozen 4
  have r_f5 := (f_r).frozen 5
  have r_f6 := (f_r).frozen 6
  have r_f7 := (f_r).frozen 7
  have r_f8 := (f_r).frozen 8
  have r_f9 := (f_r).frozen 9
  have r_l := (f_r).lt
  replace f_r := Lib.hid f_r
  replace hB_1 := Lib.hid hB_1
  obtain ⟨A, c, rfl, hc1, hc2, hsl⟩ := ho_1.byS
  obtain ⟨b, o, rfl, hbl, hcl⟩ := hsl (by omega)
  clear ho_1 hsl
  unfold maxLen at hc2
  replace hcl := Lib.hid hcl
  have hc3 : (64 : Int) ≤ (c : Int) := by omega
  have hc4 : 64 ≤ c := by omega
  go_upto_region 2 with fail
  go_cut [4, 5] (fun s4 s5 wx => ∃ v1 v2, s4 = v1 ∧ s5 = v2 ∧ ByS wx v1 24 (cat (dgt h l) 16 (nb 8 st)) ∧ ByS wx v2 65 (cat (fun _ => sd) 1 D) ∧ Below w.heap.size w wx)
  case first =>
    go_region_held3 (fun w' => w'.cell? ⟨w.heap.size, 0, none⟩ = some (.int .u64 h) ∧ w'.cell? ⟨w.heap.size, 1, none⟩ = some (.int .u64 l) ∧ w'.cell? ⟨w.heap.size + 1, 8, none⟩ = some (.int .u64 st) ∧ w'.cell? ⟨w.heap.size + 1, 9, none⟩ = some (.int .u8 sd))
      (first | ((try go_split_ands); refine ⟨?_, ?_, ?_, ?_⟩ <;> first | assumption | exact keepc hb_2 (by assumption) | (simp [go_sem]; done) | exact keepc (bel_alloc (Below.refl _ _) _) (by assumption) | exact keepc (grownBy_bel hg3) (by assumption)))
      (first
        | (go_at_call 48; (with_reducible refine (H1.out _).mono ?_); rintro e w_2 ⟨v_2, rfl, ho_2, hb_2⟩)
        | (refine step_append_grows rfl (.tmp 17) (.tmp 19) _ rfl 5 i0 _ 1 1 Try.underlying32 hi0.out hz0.out hz1.out hz2.out rfl (by omega) _ 1 1 [.int .u8 sd] rfl rfl (olds_one (by first | (simp [go_sem]; done) | exact keepc hb_2 (by simp [go_sem]; done))) ⟨b, o, none⟩ 64 c (yL D 64) rfl (by rw [yL_len]) (news_slis (m := 72) (by first | exact keepc_n (bel_alloc (Below.refl _ _) _) (keepc_n hb_2 hcl.out) | exact keepc_n hb_2 (keepc_n (bel_alloc (Below.refl _ _) _) hcl.out)) (by omega)) (by omega) (by simp [maxLen]) (by omega) ?_; intro v_3 w_3 hown hg3))
    all_goals (
      have hbt := hB_1.out
      have k1 : ByS w_3 v_3 65 (cat (fun _ => sd) 1 D) := (own_cat (d := fun _ => sd) (n := 1) (m := 64) (e := D) hown).byS
      have k2 : ByS w_3 v_2 24 (cat (dgt h l) 16 (nb 8 st)) := by
        first
          | exact ho_2.byS.below (grownBy_bel hg3)
          | exact ho_2.byS.below (bel_trans (bel_alloc (Below.refl _ _) _) (grownBy_bel hg3))
      have k3 : Below w.heap.size w w_3 := by
        refine bel_trans ?_ (grownBy_bel hg3)
        first
          | (refine bel_trans ?_ hb_2
             ((repeat (first | exact Below.refl _ _ | assumption | refine below_drewN ?_ _ | refine bel_grow ?_ _ | refine Below.drew ?_ | refine bel_alloc ?_ _ | refine bel_set ?_ (by first | exact Nat.le_refl _ | (simp; done) | (simp; omega) | omega) _ | refine bel_trans ?_ (by assumption))); done))
          | (refine bel_alloc ?_ _
             refine bel_trans ?_ hb_2
             ((repeat (first | exact Below.refl _ _ | assumption | refine below_drewN ?_ _ | refine bel_grow ?_ _ | refine Below.drew ?_ | refine bel_alloc ?_ _ | refine bel_set ?_ (by first | exact Nat.le_refl _ | (simp; done) | (simp; omega) | omega) _ | refine bel_trans ?_ (by assumption))); done))
      replace k1 := Lib.hid k1
      replace k2 := Lib.hid k2
      replace k3 := Lib.hid k3
      clear hown hg3 hb_2 ho_2 hbt
      go_wp2_with fail
      go_meet
      exact ⟨v_2, v_3, rfl, rfl, k2.out, k1.out, k3.out⟩)
  case rest =>
    obtain ⟨v1, v2, rfl, rfl, k1, k2, k3⟩ := hcut
    go_wp2_with fail
    go_ret2
    exact ⟨_, _, rfl, k1, k2, k3⟩
end Go.Proofs.Ytflaeljjalpnkaa
