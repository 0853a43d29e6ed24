/-
  WireReads, walked.
-/
import Derived.Test.YtncampbmnbhikaaWqm
import Derived.Test.YtncampbmnbhikaaJ21
import Derived.Test.YtncampbmnbhikaaLooseB
namespace Go.Proofs.Ytncampbmnbhikaa
set_option linter.unusedVariables false
set_option linter.unusedSimpArgs false
open Go.RowKit

set_option maxRecDepth 8000 in
set_option maxHeartbeats 4000000 in
theorem wireReads_far (A : Option Addr) (n c : Nat) (w : World) (hn : n ≤ maxLen) (h : 5000 < n) :
    Calls Try.prog 6 #[.slice A n c] w fun r w' => r = .returned (.bool true) ∧ Below w.heap.size w w' := by
  have HX := Lib.hid fixed_any
  have k1 : decide ((n : Int) > 5000) = true := decide_eq_true (by omega)
  unfold maxLen at hn
  go_enter Try.func6, Try.ntmps6
  go_wp2_with fail
  refine (HX.out _).mono ?_
  rintro e3 w3 ⟨rfl, hb3⟩
  go_wp2_with fail
  go_ret
  exact ⟨rfl, hb3⟩
/-- what the loose slot holds -/
def LWQ (n : Nat) (D : Nat → Int) (_ : Nat) (v : Value) (X : World) : Prop := ∃ A c, v = .slice A n c ∧ SlIs X A n (yV D)
theorem LWQ_up {n : Nat} {D : Nat → Int} (s : Nat) (v : Value) (w w' : World) (h : LWQ n D s v w) (hb : Below w.heap.size w w') : LWQ n D s v w' := by
  obtain ⟨A, c, h1, h2⟩ := h
  exact ⟨A, c, h1, h2.below hb⟩
section
attribute [local go_sem] loadV_ptr storeV_ptr
attribute [local go_sem ↓] load_WQ store_WQ
set_option maxRecDepth 8000 in
set_option maxHeartbeats 4000000 in
theorem wireReads_no (d : Rq) (st : Nat) (hst : st ≠ 0) (hf : fitRq d) (A : Option Addr) (n c : Nat) (e : Nat → Int) (he : ∀ i, 0 ≤ e i ∧ e i < 256) (hmc : n ≤ c) (hC : c ≤ maxLen) (hn : n ≤ 5000) (w : World) (hs : SlIs w A n (yV e)) (hq : readRq n e = (d, st)) :
    Calls Try.prog 6 #[.slice A n c] w fun r w' => r = .returned (.bool true) ∧ Below w.heap.size w w' := by
  have HX := Lib.hid fixed_any
  have HQ := (fun W (hb : Below w.heap.size w W) => getReq_any A n c e he hmc hC (by omega) W (hs.below hb))
  have HR := (fun W => refGetReq_any n e he (by omega) W)
  rw [hq] at HQ HR
  simp only [GotRq, cRq] at HQ HR
  replace HQ := Lib.hid HQ
  replace HR := Lib.hid HR
  have k1 : decide ((n : Int) > 5000) = false := decide_eq_false (by omega)
  have hs0 := Lib.hid hs
  clear hs he hq
  unfold maxLen at hC
  have k2 : ((st : Int) != 0) = true := by rw [bne_iff_ne]; omega
  have k3 : ((st : Int) == (st : Int)) = true := by simp
  clear hst
  go_enter Try.func6, Try.ntmps6
  go_wp2_with fail
  refine (HQ.out _ (Below.refl _ _)).mono ?_
  rintro e1 w1 ⟨AA, TA, UA, ac, tc, uc, rfl, hi1, hb1⟩
  replace hb1 := Lib.hid hb1
  replace hi1 := Lib.hid hi1
  go_upto_region 4 with fail
  refine abs_wp (fun X => Below w1.heap.size w1 X ∧ Blk X w1.heap.size 46 #[.int .i64 d.kd, .slice AA d.an ac, .slice TA d.tn tc, .slice UA d.un uc, .int .u64 (d.FF 0), .int .u64 (d.FF 1), .int .u64 (d.FF 2), .int .u64 (d.FF 3), .int .u32 (d.FF 4), .int .u32 (d.FF 5)]) ⟨bel_alloc (Below.refl _ _) _, Blk.new _ _ _⟩ ?_
  rintro X ⟨hbX, g_x⟩
  replace hi1 := Lib.hid (hi1.out.below hbX)
  replace hbX := Lib.hid (bel_eld hb1.out hbX)
  have q3 := conv8 (hs0.out.below hbX.out) c
  replace g_x := Lib.hid g_x
  clear hb1
  go_wp2_with fail
  refine (HR.out _).mono ?_
  rintro e2 w2 ⟨AB, TB, UB, ab, tb, ub, rfl, hi2, hb2⟩
  replace hi1 := Lib.hid (hi1.out.below hb2)
  have hbw := Lib.hid (bel_eld hbX.out hb2)
  have g_x2 := Lib.hid (g_x.out.kept hb2)
  replace hi2 := Lib.hid hi2
  clear hb2 q3 hbX g_x HQ HR
  go_upto_region 5 with fail
  refine abs_wp (fun Y => Below w2.heap.size w2 Y ∧ Blk Y w2.heap.size 46 #[.int .i64 d.kd, .slice AB d.an ab, .slice TB d.tn tb, .slice UB d.un ub, .int .u64 (d.FF 0), .int .u64 (d.FF 1), .int .u64 (d.FF 2), .int .u64 (d.FF 3), .int .u32 (d.FF 4), .int .u32 (d.FF 5)]) ⟨bel_alloc (Below.refl _ _) _, Blk.new _ _ _⟩ ?_
  rintro Z ⟨hbY, g_y⟩
  have g_x := g_x2.out.kept hbY
  replace hi1 := Lib.hid (hi1.out.below hbY)
  replace hi2 := Lib.hid (hi2.out.below hbY)
  replace hbY := Lib.hid (bel_eld hbw.out hbY)
  replace g_x := Lib.hid g_x
  replace g_y := Lib.hid g_y
  clear hbw g_x2
  have r_x := rowAt_blk g_x.out
  have r_y := rowAt_blk g_y.out
  have x_l := g_x.out.lt
  have y_l := g_y.out.lt
  have HS := Lib.hid (fun f => sameReq_yes d AA TA UA AB TB UB ac tc uc ab tb ub hf (Grow Z f) (hi1.out.below (grow_below Z f)) (hi2.out.below (grow_below Z f)))
  first | (with_reducible refine rgrow2 (by kernel_rfl) (by kernel_rfl) ?_) | (refine rgrow (by kernel_rfl) (by kernel_rfl) ?_)
  repeat (go_big_quiet_step (((first | (go_at_call 8; exact grow_call (HX.out _)) | (go_at_call 17; exact grow_call (HS.out _))))))
  refine wpQuiet_nil ?_
  intro dr
  go_wp2_with fail
  go_ret
  exact ⟨rfl, hbY.out.trans ((grow_below Z dr).mono hbY.out.size)⟩
set_option maxRecDepth 8000 in
set_option maxHeartbeats 4000000 in
theorem wireReads_yes (d : Rq) (hf : fitRq d) (ho : okRq d) (A : Option Addr) (n c : Nat) (e : Nat → Int) (he : ∀ i, 0 ≤ e i ∧ e i < 256) (hmc : n ≤ c) (hC : c ≤ maxLen) (hn : n ≤ 5000) (w : World) (hs : SlIs w A n (yV e)) (hq : readRq n e = (d, 0)) (z1 : lenRq d = n) (z2 : ∀ j, j < n → bytRq d j = e j) :
    Calls Try.prog 6 #[.slice A n c] w fun r w' => r = .returned (.bool true) ∧ Below w.heap.size w w' := by
  have HX := Lib.hid fixed_any
  have HQ := (fun W (hb : Below w.heap.size w W) => getReq_any A n c e he hmc hC (by omega) W (hs.below hb))
  have HR := (fun W => refGetReq_any n e he (by omega) W)
  rw [hq] at HQ HR
  simp only [GotRq, cRq] at HQ HR
  replace HQ := Lib.hid HQ
  replace HR := Lib.hid HR
  have k1 : decide ((n : Int) > 5000) = false := decide_eq_false (by omega)
  have hs0 := Lib.hid hs
  clear hs he hq
  unfold maxLen at hC
  have HB := (fun AA TA UA ac tc uc W (hi : RqIs W AA TA UA d) => putReq_any d AA TA UA ac tc uc W ho hf hi)
  rw [z1] at HB
  simp only [cRq] at HB
  replace HB := Lib.hid HB
  have hS := Lib.hid (strF_congr z2)
  clear z1 z2
  generalize bytRq d = D at *
  go_enter Try.func6, Try.ntmps6
  go_wp2_with fail
  refine (HQ.out _ (Below.refl _ _)).mono ?_
  rintro e1 w1 ⟨AA, TA, UA, ac, tc, uc, rfl, hi1, hb1⟩
  replace hb1 := Lib.hid hb1
  replace hi1 := Lib.hid hi1
  go_upto_region 4 with fail
  refine abs_wp (fun X => Below w1.heap.size w1 X ∧ Blk X w1.heap.size 46 #[.int .i64 d.kd, .slice AA d.an ac, .slice TA d.tn tc, .slice UA d.un uc, .int .u64 (d.FF 0), .int .u64 (d.FF 1), .int .u64 (d.FF 2), .int .u64 (d.FF 3), .int .u32 (d.FF 4), .int .u32 (d.FF 5)]) ⟨bel_alloc (Below.refl _ _) _, Blk.new _ _ _⟩ ?_
  rintro X ⟨hbX, g_x⟩
  replace hi1 := Lib.hid (hi1.out.below hbX)
  replace hbX := Lib.hid (bel_eld hb1.out hbX)
  have q3 := conv8 (hs0.out.below hbX.out) c
  replace g_x := Lib.hid g_x
  clear hb1
  go_wp2_with fail
  refine (HR.out _).mono ?_
  rintro e2 w2 ⟨AB, TB, UB, ab, tb, ub, rfl, hi2, hb2⟩
  replace hi1 := Lib.hid (hi1.out.below hb2)
  have hbw := Lib.hid (bel_eld hbX.out hb2)
  have g_x2 := Lib.hid (g_x.out.kept hb2)
  replace hi2 := Lib.hid hi2
  clear hb2 q3 hbX g_x HQ HR
  go_upto_region 5 with fail
  refine abs_wp (fun Y => Below w2.heap.size w2 Y ∧ Blk Y w2.heap.size 46 #[.int .i64 d.kd, .slice AB d.an ab, .slice TB d.tn tb, .slice UB d.un ub, .int .u64 (d.FF 0), .int .u64 (d.FF 1), .int .u64 (d.FF 2), .int .u64 (d.FF 3), .int .u32 (d.FF 4), .int .u32 (d.FF 5)]) ⟨bel_alloc (Below.refl _ _) _, Blk.new _ _ _⟩ ?_
  rintro Z ⟨hbY, g_y⟩
  have g_x := g_x2.out.kept hbY
  replace hi1 := Lib.hid (hi1.out.below hbY)
  replace hi2 := Lib.hid (hi2.out.below hbY)
  replace hbY := Lib.hid (bel_eld hbw.out hbY)
  replace g_x := Lib.hid g_x
  replace g_y := Lib.hid g_y
  clear hbw g_x2
  have hbY2 := hbY.out
  have r1 : ∀ n_ d_, rowAt (Grow (Grow Z n_) d_) w1.heap.size = some #[.int .i64 d.kd, .slice AA d.an ac, .slice TA d.tn tc, .slice UA d.un uc, .int .u64 (d.FF 0), .int .u64 (d.FF 1), .int .u64 (d.FF 2), .int .u64 (d.FF 3), .int .u32 (d.FF 4), .int .u32 (d.FF 5)] := fun n_ d_ => rowAt_blk ((g_x.out.grow n_).grow d_)
  have r2 : ∀ n_ d_, rowAt (Grow (Grow Z n_) d_) w2.heap.size = some #[.int .i64 d.kd, .slice AB d.an ab, .slice TB d.tn tb, .slice UB d.un ub, .int .u64 (d.FF 0), .int .u64 (d.FF 1), .int .u64 (d.FF 2), .int .u64 (d.FF 3), .int .u32 (d.FF 4), .int .u32 (d.FF 5)] := fun n_ d_ => rowAt_blk ((g_y.out.grow n_).grow d_)
  have a1 : ∀ n_ d_, (convert 31 9 (.slice A n c)).run Try.prog (Grow (Grow Z n_) d_) = .ok (.string (strF e n)) (Grow (Grow Z n_) d_) := fun n_ d_ => conv8 (hs0.out.below (bel_grow (bel_grow hbY2 n_) d_)) c
  have HS := Lib.hid (fun f g => sameReq_yes d AA TA UA AB TB UB ac tc uc ab tb ub hf (Grow (Grow Z f) g) (hi1.out.below (bel_grow (grow_below Z f) g)) (hi2.out.below (bel_grow (grow_below Z f) g)))
  refine wp_region_loose (W0 := Z) (H := [38]) (L := LWQ n D) LWQ_up (by kernel_rfl) (by kernel_rfl) (Below.refl _ _) (by simp) ?_
  iterate 16 (apply lexY_quiet 45 rfl (by kernel_rfl) (by kernel_rfl); intro n_ K_ hK_; go_big_quiet_op; first | exact hK_ | (apply Exists.intro; refine ⟨fun _ => ?_, ?_⟩; (first | (go_at_call 8; with_reducible exact grow_call (HX.out _)) | (go_at_call 17; with_reducible exact grow_call (HS.out _ _))); exact hK_))
  apply lexY_loose 38 (by kernel_rfl) (by kernel_rfl) 13 #[.agg #[.int .i64 d.kd, .slice AA d.an ac, .slice TA d.tn tc, .slice UA d.un uc, .int .u64 (d.FF 0), .int .u64 (d.FF 1), .int .u64 (d.FF 2), .int .u64 (d.FF 3), .int .u32 (d.FF 4), .int .u32 (d.FF 5)]]
  case hx =>
    intro W
    simp [go_sem]
  case hc =>
    intro n_
    refine (HB.out AA TA UA ac tc uc _ (hi1.out.below (grow_below Z n_))).mono ?_
    rintro r w' ⟨v, rfl, ho, hb⟩
    obtain ⟨A8, c8, rfl, _, _, s8⟩ := ho.byS
    exact ⟨_, rfl, hb, A8, c8, rfl, s8⟩
  case ha =>
    simp only [Act.put, List.setIfInBounds_toArray, List.set_cons_succ, List.set_cons_zero]
    exact rfl
  apply lexY_dep 38 (.string (strF e n)) (by kernel_rfl) (by kernel_rfl)
  case hx =>
    rintro n_ u ⟨A8, c8, rfl, s8⟩
    have q := conv8 s8 c8
    rw [hS.out] at q
    simp [execOp, ovr, q]
  case ha =>
    simp only [Act.put, List.setIfInBounds_toArray, List.set_cons_succ, List.set_cons_zero]
    exact rfl
  repeat (apply lexY_quiet 45 rfl (by kernel_rfl) (by kernel_rfl); intro n_ K_ hK_; go_big_quiet_op; first | exact hK_ | (apply Exists.intro; refine ⟨fun _ => ?_, ?_⟩; (first | (go_at_call 8; with_reducible exact grow_call (HX.out _)) | (go_at_call 17; with_reducible exact grow_call (HS.out _ _))); exact hK_))
  intro a9 w9 hb9 hag
  obtain ⟨u38, rfl⟩ := hag.one
  simp only [Act.put, List.setIfInBounds_toArray, List.set_cons_succ, List.set_cons_zero]
  clear a1 r1 r2 hag
  replace hb9 := Lib.hid (bel_eld hbY2 hb9)
  go_wp2_with fail
  go_ret
  exact ⟨rfl, hb9.out⟩
end
theorem wireReads_any (A : Option Addr) (n c : Nat) (hm : n ≤ c ∧ c ≤ maxLen) (e : Nat → Int) (he : ∀ i, 0 ≤ e i ∧ e i < 256) (w : World) (hs : SlIs w A n (yV e)) :
    Calls Try.prog 6 #[.slice A n c] w fun r w' => r = .returned (.bool true) ∧ Below w.heap.size w w' := by
  obtain ⟨hmc, hC⟩ := hm
  rcases Nat.lt_or_ge 5000 n with h | h
  · exact wireReads_far A n c w (by omega) h
  · obtain ⟨ho, hf, hb⟩ := readRq_back n e he
    rcases hq : readRq n e with ⟨d, st⟩
    rw [hq] at ho hf hb
    dsimp only at ho hf hb
    rcases hb with ⟨rfl, z1, z2⟩ | ⟨h1, _⟩
    · exact wireReads_yes d hf ho A n c e he hmc hC h w hs hq z1 z2
    · exact wireReads_no d st h1 hf A n c e he hmc hC h w hs hq
end Go.Proofs.Ytncampbmnbhikaa
