/-
  WireAnswers, walked.
-/
import Derived.Test.YtncampbmnbhikaaWse
import Derived.Test.YtncampbmnbhikaaJ20
import Derived.Test.YtncampbmnbhikaaJ21
import Derived.Test.YtncampbmnbhikaaLooseB
namespace Go.Proofs.Ytncampbmnbhikaa
set_option linter.unusedVariables false
set_option linter.unusedSimpArgs false
open Go.RowKit

set_option maxRecDepth 8000 in
set_option maxHeartbeats 4000000 in
theorem wireAnswers_far (A : Option Addr) (n c : Nat) (w : World) (hn : n ≤ maxLen) (h : 5000 < n) :
    Calls Try.prog 4 #[.slice A n c] w fun r w' => r = .returned (.bool true) ∧ Below w.heap.size w w' := by
  have HX := Lib.hid fixed_any
  have k1 : decide ((n : Int) > 5000) = true := decide_eq_true (by omega)
  unfold maxLen at hn
  go_enter Try.func4, Try.ntmps4
  go_wp2_with fail
  refine (HX.out _).mono ?_
  rintro e3 w3 ⟨rfl, hb3⟩
  go_wp2_with fail
  go_ret
  exact ⟨rfl, hb3⟩

/-- what the loose slot holds -/
def LWA (n : Nat) (D : Nat → Int) (_ : Nat) (v : Value) (X : World) : Prop := ∃ A c, v = .slice A n c ∧ SlIs X A n (yV D)
theorem LWA_up {n : Nat} {D : Nat → Int} (s : Nat) (v : Value) (w w' : World) (h : LWA n D s v w) (hb : Below w.heap.size w w') : LWA n D s v w' := by
  obtain ⟨A, c, h1, h2⟩ := h
  exact ⟨A, c, h1, h2.below hb⟩
def cRp (d : Rp) (RA AA TA BA : Option Addr) (rc ac tc bc : Nat) : Array Value := #[.int .i64 d.st, .int .i64 d.kd, .slice RA d.rn rc, .slice AA d.an ac, .slice TA d.tn tc, .slice BA d.bn bc, .int .u32 d.ct]

section
attribute [local go_sem] loadV_ptr storeV_ptr
attribute [local go_sem ↓] load_WP store_WP
set_option maxRecDepth 8000 in
set_option maxHeartbeats 4000000 in
theorem wireAnswers_no (A : Option Addr) (n c : Nat) (e : Nat → Int) (he : ∀ i, 0 ≤ e i ∧ e i < 256) (hmc : n ≤ c) (hC : c ≤ maxLen) (hn : n ≤ 5000) (w : World) (hs : SlIs w A n (yV e)) (hq : readRp n e = none) :
    Calls Try.prog 4 #[.slice A n c] w fun r w' => r = .returned (.bool true) ∧ Below w.heap.size w w' := by
  have HX := Lib.hid fixed_any
  have HQ := Lib.hid (fun W (hb : Below w.heap.size w W) => getReply_any A n c e he hmc hC (by omega) W (hs.below hb))
  have HR := Lib.hid (fun W => refGetReply_any n e he (by omega) W)
  rw [hq] at HQ HR
  have HP := Lib.hid (fun RA AA TA BA rc ac tc bc W => refReply_any zeroRp RA AA TA BA rc ac tc bc W ok_zero fit_zero ⟨SsIs.nil, SsIs.nil, SsIs.nil, SsIs.nil⟩)
  have k1 : decide ((n : Int) > 5000) = false := decide_eq_false (by omega)
  have hs0 := Lib.hid hs
  clear hs he hq
  unfold maxLen at hC
  generalize strF (bytRp zeroRp) (lenRp zeroRp) = S at *
  go_enter Try.func4, Try.ntmps4
  go_wp2_with fail
  refine (HQ.out _ (Below.refl _ _)).mono ?_
  rintro e1 w1 ⟨d1, RA, AA, TA, BA, rc, ac, tc, bc, rfl, rfl, _, hb1⟩
  simp only [Option.getD_none, Option.isSome_none, zeroRp]
  replace hb1 := Lib.hid hb1
  go_upto_region 4 with fail
  refine abs_wp (fun X => Below w.heap.size w X ∧ Blk X w1.heap.size 28 #[.int .i64 0, .int .i64 0, .slice RA 0 rc, .slice AA 0 ac, .slice TA 0 tc, .slice BA 0 bc, .int .u32 0]) ⟨bel_alloc hb1.out _, Blk.new _ _ _⟩ ?_
  rintro X ⟨hbX, g_x⟩
  have q3 := conv8 (hs0.out.below hbX) c
  replace hbX := Lib.hid hbX
  replace g_x := Lib.hid g_x
  have z1 := Lib.hid hb1.out.size
  clear hb1
  go_wp2_with fail
  refine (HR.out _).mono ?_
  rintro e2 w2 ⟨d2, RB, AB, TB, BB, rd, ad, td, bd, rfl, rfl, _, hb2⟩
  simp only [Option.getD_none, Option.isSome_none, zeroRp]
  have hbw := Lib.hid (bel_eld hbX.out hb2)
  have g_x2 := Lib.hid (g_x.out.kept hb2)
  have z2 := Lib.hid (Nat.lt_of_lt_of_le g_x.out.lt hb2.size)
  clear hb2 q3 hbX g_x HQ HR
  go_upto_region 5 with fail
  refine abs_wp (fun Y => Below w.heap.size w Y ∧ Blk Y w1.heap.size 28 #[.int .i64 0, .int .i64 0, .slice RA 0 rc, .slice AA 0 ac, .slice TA 0 tc, .slice BA 0 bc, .int .u32 0] ∧ Blk Y w2.heap.size 28 #[.int .i64 0, .int .i64 0, .slice RB 0 rd, .slice AB 0 ad, .slice TB 0 td, .slice BB 0 bd, .int .u32 0]) ⟨bel_alloc hbw.out _, g_x2.out.alloc _, Blk.new _ _ _⟩ ?_
  rintro Y ⟨hbY, g_x, g_y⟩
  have r_x := rowAt_blk g_x
  have r_y := rowAt_blk g_y
  have x0 := (g_x).cell 0
  have x1 := (g_x).cell 1
  have x2 := (g_x).cell 2
  have x3 := (g_x).cell 3
  have x4 := (g_x).cell 4
  have x5 := (g_x).cell 5
  have x6 := (g_x).cell 6
  have xf0 := (g_x).frozen 0
  have xf1 := (g_x).frozen 1
  have xf2 := (g_x).frozen 2
  have xf3 := (g_x).frozen 3
  have xf4 := (g_x).frozen 4
  have xf5 := (g_x).frozen 5
  have xf6 := (g_x).frozen 6
  have xl := (g_x).lt
  have y0 := (g_y).cell 0
  have y1 := (g_y).cell 1
  have y2 := (g_y).cell 2
  have y3 := (g_y).cell 3
  have y4 := (g_y).cell 4
  have y5 := (g_y).cell 5
  have y6 := (g_y).cell 6
  have yf0 := (g_y).frozen 0
  have yf1 := (g_y).frozen 1
  have yf2 := (g_y).frozen 2
  have yf3 := (g_y).frozen 3
  have yf4 := (g_y).frozen 4
  have yf5 := (g_y).frozen 5
  have yf6 := (g_y).frozen 6
  have yl := (g_y).lt
  replace hbY := Lib.hid hbY
  replace g_x := Lib.hid g_x
  replace g_y := Lib.hid g_y
  clear hbw g_x2
  simp only [zeroRp] at HP
  first | (with_reducible refine rgrow2 (by kernel_rfl) (by kernel_rfl) ?_) | (refine rgrow (by kernel_rfl) (by kernel_rfl) ?_)
  repeat (go_big_quiet_step (((go_at_call 10; (first | (with_reducible exact grow_call (HP.out RA AA TA BA rc ac tc bc _)) | (with_reducible exact grow_call (HP.out RB AB TB BB rd ad td bd _)))))))
  refine wpQuiet_nil ?_
  intro dr
  go_wp2_with fail
  replace hbY := Lib.hid (hbY.out.trans ((grow_below Y dr).mono hbY.out.size))
  replace g_x := Lib.hid (g_x.out.kept (grow_below Y dr))
  generalize Grow Y dr = Z at *
  clear r_x r_y x0 x1 x2 x3 x4 x5 x6 xf0 xf1 xf2 xf3 xf4 xf5 xf6 xl y0 y1 y2 y3 y4 y5 y6 yf0 yf1 yf2 yf3 yf4 yf5 yf6 yl g_y HP
  have x0 := (g_x.out).cell 0
  have x1 := (g_x.out).cell 1
  have x2 := (g_x.out).cell 2
  have x3 := (g_x.out).cell 3
  have x4 := (g_x.out).cell 4
  have x5 := (g_x.out).cell 5
  have x6 := (g_x.out).cell 6
  have xf0 := (g_x.out).frozen 0
  have xf1 := (g_x.out).frozen 1
  have xf2 := (g_x.out).frozen 2
  have xf3 := (g_x.out).frozen 3
  have xf4 := (g_x.out).frozen 4
  have xf5 := (g_x.out).frozen 5
  have xf6 := (g_x.out).frozen 6
  have xl := (g_x.out).lt
  first | (with_reducible refine rgrow2 (by kernel_rfl) (by kernel_rfl) ?_) | (refine rgrow (by kernel_rfl) (by kernel_rfl) ?_)
  repeat (go_big_quiet_step (((go_at_call 8; exact grow_call (HX.out _)))))
  refine wpQuiet_nil ?_
  intro dr
  go_wp2_with fail
  go_ret
  exact ⟨rfl, hbY.out.trans ((grow_below Z dr).mono hbY.out.size)⟩
set_option maxRecDepth 8000 in
set_option maxHeartbeats 4000000 in
theorem wireAnswers_yes (d : Rp) (A : Option Addr) (n c : Nat) (e : Nat → Int) (he : ∀ i, 0 ≤ e i ∧ e i < 256) (hmc : n ≤ c) (hC : c ≤ maxLen) (hn : n ≤ 5000) (w : World) (hs : SlIs w A n (yV e)) (hq : readRp n e = some d) :
    Calls Try.prog 4 #[.slice A n c] w fun r w' => r = .returned (.bool true) ∧ Below w.heap.size w w' := by
  have HX := Lib.hid fixed_any
  have HQ := Lib.hid (fun W (hb : Below w.heap.size w W) => getReply_any A n c e he hmc hC (by omega) W (hs.below hb))
  have HR := Lib.hid (fun W => refGetReply_any n e he (by omega) W)
  rw [hq] at HQ HR
  obtain ⟨z1, z2, z3, z4⟩ := read_back he (by omega) hq
  have HP := Lib.hid (fun RA AA TA BA rc ac tc bc W (hi : RpIs W RA AA TA BA d) => refReply_any d RA AA TA BA rc ac tc bc W z3 z4 hi)
  have HB := Lib.hid (fun RA AA TA BA rc ac tc bc W (hi : RpIs W RA AA TA BA d) => putReply_any d RA AA TA BA rc ac tc bc W z3 z4 hi)
  rw [z1] at HP HB
  have hS := Lib.hid (strF_congr z2)
  have k1 : decide ((n : Int) > 5000) = false := decide_eq_false (by omega)
  have hs0 := Lib.hid hs
  clear hs he hq z1 z2 z3 z4
  unfold maxLen at hC
  generalize bytRp d = D at *
  go_enter Try.func4, Try.ntmps4
  go_wp2_with fail
  refine (HQ.out _ (Below.refl _ _)).mono ?_
  rintro e1 w1 ⟨d1, RA, AA, TA, BA, rc, ac, tc, bc, hd1, rfl, hi1, hb1⟩
  simp only [Option.getD_some] at hd1
  subst hd1
  simp only [Option.isSome_some]
  replace hb1 := Lib.hid hb1
  replace hi1 := Lib.hid hi1
  go_upto_region 4 with fail
  refine abs_wp (fun X => Below w1.heap.size w1 X ∧ Blk X w1.heap.size 28 #[.int .i64 d1.st, .int .i64 d1.kd, .slice RA d1.rn rc, .slice AA d1.an ac, .slice TA d1.tn tc, .slice BA d1.bn bc, .int .u32 d1.ct]) ⟨bel_alloc (Below.refl _ _) _, Blk.new _ _ _⟩ ?_
  rintro X ⟨hbX, g_x⟩
  replace hi1 := Lib.hid (hi1.out.below hbX)
  replace hbX := Lib.hid (bel_eld hb1.out hbX)
  have q3 := conv8 (hs0.out.below hbX.out) c
  replace g_x := Lib.hid g_x
  clear hb1
  go_wp2_with fail
  refine (HR.out _).mono ?_
  rintro e2 w2 ⟨d2, RB, AB, TB, BB, rd, ad, td, bd, hd2, rfl, hi2, hb2⟩
  simp only [Option.getD_some] at hd2
  subst hd2
  simp only [Option.isSome_some]
  replace hi1 := Lib.hid (hi1.out.below hb2)
  have hbw := Lib.hid (bel_eld hbX.out hb2)
  have g_x2 := Lib.hid (g_x.out.kept hb2)
  replace hi2 := Lib.hid hi2
  clear hb2 q3 hbX g_x HQ HR
  go_upto_region 5 with fail
  refine abs_wp (fun Y => Below w2.heap.size w2 Y ∧ Blk Y w2.heap.size 28 #[.int .i64 d2.st, .int .i64 d2.kd, .slice RB d2.rn rd, .slice AB d2.an ad, .slice TB d2.tn td, .slice BB d2.bn bd, .int .u32 d2.ct]) ⟨bel_alloc (Below.refl _ _) _, Blk.new _ _ _⟩ ?_
  rintro Y ⟨hbY, g_y⟩
  have hL := g_x2.out.lt
  have g_x := g_x2.out.kept hbY
  have r_x := rowAt_blk g_x
  have r_y := rowAt_blk g_y
  have x0 := (g_x).cell 0
  have x1 := (g_x).cell 1
  have x2 := (g_x).cell 2
  have x3 := (g_x).cell 3
  have x4 := (g_x).cell 4
  have x5 := (g_x).cell 5
  have x6 := (g_x).cell 6
  have xf0 := (g_x).frozen 0
  have xf1 := (g_x).frozen 1
  have xf2 := (g_x).frozen 2
  have xf3 := (g_x).frozen 3
  have xf4 := (g_x).frozen 4
  have xf5 := (g_x).frozen 5
  have xf6 := (g_x).frozen 6
  have xl := (g_x).lt
  have y0 := (g_y).cell 0
  have y1 := (g_y).cell 1
  have y2 := (g_y).cell 2
  have y3 := (g_y).cell 3
  have y4 := (g_y).cell 4
  have y5 := (g_y).cell 5
  have y6 := (g_y).cell 6
  have yf0 := (g_y).frozen 0
  have yf1 := (g_y).frozen 1
  have yf2 := (g_y).frozen 2
  have yf3 := (g_y).frozen 3
  have yf4 := (g_y).frozen 4
  have yf5 := (g_y).frozen 5
  have yf6 := (g_y).frozen 6
  have yl := (g_y).lt
  replace hi1 := Lib.hid (hi1.out.below hbY)
  replace hi2 := Lib.hid (hi2.out.below hbY)
  replace hbY := Lib.hid (bel_eld hbw.out hbY)
  replace g_x := Lib.hid g_x
  replace g_y := Lib.hid g_y
  have HP1 := Lib.hid (fun f => HP.out RA AA TA BA rc ac tc bc (Grow Y f) (hi1.out.below (grow_below Y f)))
  have HP2 := Lib.hid (fun f => HP.out RB AB TB BB rd ad td bd (Grow Y f) (hi2.out.below (grow_below Y f)))
  clear hbw g_x2 HP
  first | (with_reducible refine rgrow2 (by kernel_rfl) (by kernel_rfl) ?_) | (refine rgrow (by kernel_rfl) (by kernel_rfl) ?_)
  repeat (go_big_quiet_step (((go_at_call 10; (first | (with_reducible exact grow_call (HP1.out _)) | (with_reducible exact grow_call (HP2.out _)))))))
  refine wpQuiet_nil ?_
  intro dr
  go_wp2_with fail
  replace hi1 := Lib.hid (hi1.out.below (grow_below Y dr))
  replace hbY := Lib.hid (hbY.out.trans ((grow_below Y dr).mono hbY.out.size))
  replace g_x := Lib.hid (g_x.out.kept (grow_below Y dr))
  have s3 := Lib.hid (hs0.out.below hbY.out)
  generalize Grow Y dr = Z at *
  clear r_x r_y x0 x1 x2 x3 x4 x5 x6 xf0 xf1 xf2 xf3 xf4 xf5 xf6 xl y0 y1 y2 y3 y4 y5 y6 yf0 yf1 yf2 yf3 yf4 yf5 yf6 yl g_y HP1 HP2 hi2 hs0
  have hbY2 := hbY.out
  have r1 : ∀ n_ d_, rowAt (Grow (Grow Z n_) d_) w1.heap.size = some #[.int .i64 d2.st, .int .i64 d2.kd, .slice RA d2.rn rc, .slice AA d2.an ac, .slice TA d2.tn tc, .slice BA d2.bn bc, .int .u32 d2.ct] := fun n_ d_ => rowAt_blk ((g_x.out.grow n_).grow d_)
  have a1 : ∀ n_ d_, (convert 31 9 (.slice A n c)).run Try.prog (Grow (Grow Z n_) d_) = .ok (.string (strF e n)) (Grow (Grow Z n_) d_) := fun n_ d_ => conv8 (s3.out.below (bel_grow (grow_below Z n_) d_)) c
  refine wp_region_loose (W0 := Z) (H := [80]) (L := LWA n D) LWA_up (by kernel_rfl) (by kernel_rfl) (Below.refl _ _) (by simp) ?_
  iterate 4 (apply lexY_quiet 87 rfl (by kernel_rfl) (by kernel_rfl); intro n_ K_ hK_; go_big_quiet_op; first | exact hK_ | (apply Exists.intro; refine ⟨fun _ => ?_, ?_⟩; (go_at_call 8; with_reducible exact grow_call (HX.out _)); exact hK_))
  iterate 16 (apply lexY_skip (by kernel_rfl) (by kernel_rfl); simp only [Act.put, List.setIfInBounds_toArray, List.set_cons_succ, List.set_cons_zero])
  iterate 7 (apply lexY_quiet 87 rfl (by kernel_rfl) (by kernel_rfl); intro n_ K_ hK_; go_big_quiet_op; first | exact hK_ | (apply Exists.intro; refine ⟨fun _ => ?_, ?_⟩; (go_at_call 8; with_reducible exact grow_call (HX.out _)); exact hK_))
  apply lexY_loose 80 (by kernel_rfl) (by kernel_rfl) 9 #[.agg #[.int .i64 d2.st, .int .i64 d2.kd, .slice RA d2.rn rc, .slice AA d2.an ac, .slice TA d2.tn tc, .slice BA d2.bn bc, .int .u32 d2.ct]]
  case hx =>
    intro W
    simp [go_sem]
  case hc =>
    intro n_
    refine (HB.out RA AA TA BA rc ac tc bc _ (hi1.out.below (grow_below Z n_))).mono ?_
    rintro r w' ⟨v, rfl, ho, hb⟩
    obtain ⟨A8, c8, rfl, _, _, s8⟩ := ho.byS
    exact ⟨_, rfl, hb, A8, c8, rfl, s8⟩
  case ha =>
    simp only [Act.put, List.setIfInBounds_toArray, List.set_cons_succ, List.set_cons_zero]
    exact rfl
  apply lexY_dep 80 (.string (strF e n)) (by kernel_rfl) (by kernel_rfl)
  case hx =>
    rintro n_ u ⟨A8, c8, rfl, s8⟩
    have q := conv8 s8 c8
    rw [hS.out] at q
    simp [execOp, ovr, q]
  case ha =>
    simp only [Act.put, List.setIfInBounds_toArray, List.set_cons_succ, List.set_cons_zero]
    exact rfl
  repeat (apply lexY_quiet 87 rfl (by kernel_rfl) (by kernel_rfl); intro n_ K_ hK_; go_big_quiet_op; first | exact hK_ | (apply Exists.intro; refine ⟨fun _ => ?_, ?_⟩; (go_at_call 8; with_reducible exact grow_call (HX.out _)); exact hK_))
  intro a9 w9 hb9 hag
  obtain ⟨u80, rfl⟩ := hag.one
  simp only [Act.put, List.setIfInBounds_toArray, List.set_cons_succ, List.set_cons_zero]
  clear a1 r1 hag
  replace hb9 := Lib.hid (bel_eld hbY2 hb9)
  go_wp2_with fail
  go_ret
  exact ⟨rfl, hb9.out⟩
end
theorem wireAnswers_any (A : Option Addr) (n c : Nat) (hm : n ≤ c ∧ c ≤ maxLen) (e : Nat → Int) (he : ∀ i, 0 ≤ e i ∧ e i < 256) (w : World) (hs : SlIs w A n (yV e)) :
    Calls Try.prog 4 #[.slice A n c] w fun r w' => r = .returned (.bool true) ∧ Below w.heap.size w w' := by
  obtain ⟨hmc, hC⟩ := hm
  rcases Nat.lt_or_ge 5000 n with h | h
  · exact wireAnswers_far A n c w (by omega) h
  · cases hq : readRp n e with
    | none => exact wireAnswers_no A n c e he hmc hC h w hs hq
    | some d => exact wireAnswers_yes d A n c e he hmc hC h w hs hq
end Go.Proofs.Ytncampbmnbhikaa
