/-
  WireReplies, walked: where it is gone through.
-/
import Derived.Test.YtncampbmnbhikaaJ21
namespace Go.Proofs.Ytncampbmnbhikaa
set_option linter.unusedVariables false
set_option linter.unusedSimpArgs false
open Go.RowKit

section
attribute [local go_sem] loadV_ptr storeV_ptr
attribute [local go_sem ↓] load_WP store_WP
set_option maxRecDepth 8000 in
set_option maxHeartbeats 4000000 in
theorem wireReplies_near (d : Rp) (RA AA TA BA : Option Addr) (rc ac tc bc : Nat) (w : World) (hok : okRp d) (h : manyRp d = false) (hs : RpIs w RA AA TA BA d) :
    Calls Try.prog 3 #[.agg #[.int .i64 d.st, .int .i64 d.kd, .slice RA d.rn rc, .slice AA d.an ac, .slice TA d.tn tc, .slice BA d.bn bc, .int .u32 d.ct]] w fun r w' => r = .returned (.bool true) ∧ Below w.heap.size w w' := by
  have HG := Lib.hid (fun (W : World) n (hn : n = W.heap.size) => great_four (w := w) (W := W) (n := n) (a := d.rn) (b := d.an) (c := d.tn) (e := d.bn) hn h.symm)
  have HX := Lib.hid fixed_any
  have hm : ¬ (100 < d.rn ∨ 100 < d.an ∨ 100 < d.tn ∨ 100 < d.bn) := of_decide_eq_false h
  have hfit : fitRp d := by unfold fitRp; omega
  have hlen : lenRp d ≤ 30000 := by
    unfold lenRp
    repeat' split
    all_goals omega
  have HP := Lib.hid (fun W (hb : Below w.heap.size w W) => putReply_any d RA AA TA BA rc ac tc bc W hok hfit (hs.below hb))
  have HR := Lib.hid (fun W (hb : Below w.heap.size w W) => refReply_any d RA AA TA BA rc ac tc bc W hok hfit (hs.below hb))
  have hx : d.rn ≤ 100 ∧ d.an ≤ 100 ∧ d.tn ≤ 100 ∧ d.bn ≤ 100 := by omega
  obtain ⟨m1, m2, m3, m4⟩ := hx
  have HC := Lib.hid (@read_of d)
  have HO := Lib.hid (@byt_ok d)
  generalize lenRp d = N at *
  generalize bytRp d = D at *
  clear hm hfit h hok hs
  obtain ⟨st, kd, rn, RF, an, AF, tn, TF, bn, BF, ct⟩ := d
  dsimp only at *
  go_enter Try.func3, Try.ntmps3
  go_wp2_with fail
  refine (HG.out _ _ (by simp)).mono ?_
  rintro e1 w1 ⟨rfl, hb1⟩
  have hb2 := Lib.hid ((bel_alloc (bel_alloc (Below.refl _ _) _) _ : Below w.heap.size w _).trans (hb1.mono (by simp; omega)))
  have g_x := (((Blk.new _ _ _).kept (bel_alloc (Below.refl _ _) _)).kept hb1 : Blk w1 w.heap.size 28 #[.int .i64 st, .int .i64 kd, .slice RA rn rc, .slice AA an ac, .slice TA tn tc, .slice BA bn bc, .int .u32 ct])
  clear hb1
  have r_x := rowAt_blk g_x
  go_wp2_with fail
  refine (HP.out _ hb2.out).mono ?_
  rintro e3 w3 ⟨v3, rfl, ho3, hb3⟩
  replace hb2 := Lib.hid (bel_eld hb2.out hb3)
  replace g_x := g_x.kept hb3
  obtain ⟨A3, c3, rfl, k1, k2, s3⟩ := ho3.byS
  have q3 := fun e => conv8 (s3.below (grow_below w3 e)) c3
  have HRm := Lib.hid (fun e => HR.out (Grow w3 e) (hb2.out.trans ((grow_below w3 e).mono hb2.out.size)))
  clear hb3 ho3 r_x
  replace s3 := Lib.hid s3
  have r_x := rowAt_blk g_x
  have x0 := (g_x).cell 0
  have x1 := (g_x).cell 1
  have x2 := (g_x).cell 2
  have x3 := (g_x).cell 3
  have x4 := (g_x).cell 4
  have x5 := (g_x).cell 5
  have x6 := (g_x).cell 6
  have xf0 := (g_x).frozen 0
  have xf1 := (g_x).frozen 1
  have xf2 := (g_x).frozen 2
  have xf3 := (g_x).frozen 3
  have xf4 := (g_x).frozen 4
  have xf5 := (g_x).frozen 5
  have xf6 := (g_x).frozen 6
  have xl := (g_x).lt
  replace g_x := Lib.hid g_x
  go_wp2_with fail
  first | (with_reducible refine rgrow2 (by kernel_rfl) (by kernel_rfl) ?_) | (refine rgrow (by kernel_rfl) (by kernel_rfl) ?_)
  repeat (go_big_quiet_step (((go_at_call 10; exact grow_call (HRm.out _)))))
  refine wpQuiet_nil ?_
  intro dr
  go_wp2_with fail
  replace hb2 := Lib.hid (hb2.out.trans ((grow_below w3 dr).mono hb2.out.size))
  replace g_x := Lib.hid (g_x.out.kept (grow_below w3 dr))
  replace s3 := Lib.hid (s3.out.below (grow_below w3 dr))
  generalize Grow w3 dr = w4 at *
  clear HRm HR HP HG q3 r_x x0 x1 x2 x3 x4 x5 x6 xf0 xf1 xf2 xf3 xf4 xf5 xf6 xl
  by_cases hN : N = 0
  · subst hN
    refine (getReply_zero A3 0 c3 (fun _ => 0) (fun _ => ⟨by decide, by decide⟩) k1 k2 (by omega) w4 (fun h => absurd h (by omega)) rfl).mono ?_
    rintro e5 w5 ⟨rfl, hb5⟩
    have hb6 := Lib.hid (bel_eld hb2.out hb5)
    clear hb5
    go_wp2_with fail
    refine (HX.out _).mono ?_
    rintro e7 w7 ⟨rfl, hb7⟩
    have hb8 := Lib.hid ((bel_alloc hb6.out _).trans (hb7.mono (by have := hb6.out.size; simp; omega)))
    go_wp2_with fail
    go_ret
    exact ⟨rfl, hb8.out⟩
  obtain ⟨d', hd', hst⟩ := HC.out hN
  obtain ⟨z1, z2, z3, z4⟩ := read_back (HO.out hN) hlen hd'
  have HQ := getReply_any A3 N c3 D (HO.out hN) k1 k2 (by omega) w4 s3.out
  rw [hd'] at HQ
  refine HQ.mono ?_
  rintro e5 w5 ⟨d5, RB, AB, TB, BB, rd, ad, td, bd, e6, rfl, hs5, hb5⟩
  cases e6
  have HP := Lib.hid (fun W (hb : Below w5.heap.size w5 W) => putReply_any d' RB AB TB BB rd ad td bd W z3 z4 (hs5.below hb))
  rw [z1] at HP
  have hS := Lib.hid (strF_congr z2)
  obtain ⟨st', kd', rn', RF', an', AF', tn', TF', bn', BF', ct'⟩ := d'
  dsimp only [Option.getD_some, Option.isSome_some] at *
  subst hst
  have hb6 := Lib.hid (bel_eld hb2.out hb5)
  replace g_x := Lib.hid (g_x.out.kept hb5)
  replace s3 := Lib.hid (s3.out.below hb5)
  have hN' : ((N : Int) == 0) = false := beq_eq_false_iff_ne.2 (by omega)
  clear HQ hb5 hb2 HC HO hd' z1 z2 z3 z4 hs5
  go_wp2_with fail
  refine abs_wp (fun X => Below w5.heap.size w5 X ∧ Blk X w5.heap.size 28 #[.int .i64 st', .int .i64 kd', .slice RB rn' rd, .slice AB an' ad, .slice TB tn' td, .slice BB bn' bd, .int .u32 ct']) ⟨bel_alloc (Below.refl _ _) _, Blk.new _ _ _⟩ ?_
  rintro X ⟨hbX, g_t⟩
  replace hb6 := Lib.hid (bel_eld hb6.out hbX)
  replace g_x := Lib.hid (g_x.out.kept hbX)
  replace s3 := Lib.hid (s3.out.below hbX)
  replace hbX := Lib.hid hbX
  replace g_t := Lib.hid g_t
  replace g_x := Lib.hid g_x.out
  go_cut [2] (fun s wx => s = .bool true ∧ Hid (Below w.heap.size w wx))
  case rest =>
    obtain ⟨rfl, hc⟩ := hcut
    go_wp2_with fail
    go_ret
    exact ⟨rfl, hc.out⟩
  case first =>
   go_region_law (first
    | (go_simp; go_at_call 8; refine (HX.out _).mono ?_; rintro e9 w9 ⟨rfl, hb9_⟩; have hb9 : Below X.heap.size X w9 := Below.trans (Below.drew (Below.refl _ _)) hb9_; clear hb9_; have x9 := (g_x.out.kept hb9).cell 0; have t9 := (g_t.out.kept hb9).cell 0; have r9 := rowAt_blk (g_t.out.kept hb9); have b9 := Lib.hid (hb6.out.trans (hb9.mono hb6.out.size)); have bX9 := Lib.hid (hbX.out.trans (hb9.mono hbX.out.size)); have s9 := Lib.hid (s3.out.below hb9); have q9 := conv8 s9.out c3; have q9b := conv8 (s9.out.below (Below.drew (Below.refl _ _))) c3; clear hb9)
    | (go_simp; go_at_call 9; (first | refine (HP.out _ bX9.out.drew).mono ?_ | refine (HP.out _ bX9.out.drew.drew).mono ?_ | refine (HP.out _ bX9.out).mono ?_); rintro e8 w8 ⟨v8, rfl, ho8, hb8_⟩; have hb8 : Below w9.heap.size w9 w8 := (by first | exact Below.trans (Below.drew (Below.refl _ _)) hb8_ | exact hb8_); clear hb8_; obtain ⟨A8, c8, rfl, _, _, s8⟩ := ho8.byS; have d1 : Below w8.heap.size w8 w8.drew := Below.drew (Below.refl _ _); have d2 : Below w8.heap.size w8 w8.drew.drew := Below.drew (Below.drew (Below.refl _ _)); have s9' := s9.out.below hb8; have q8a := conv8 s8 c8; have q8b := conv8 (s8.below d1) c8; have q8c := conv8 (s8.below d2) c8; have q3a := conv8 s9' c3; have q3b := conv8 (s9'.below d1) c3; have q3c := conv8 (s9'.below d2) c3; clear d1 d2; replace s9' := Lib.hid s9'; have b8 := Lib.hid (bel_eld b9.out hb8); clear hb8 ho8; replace s8 := Lib.hid s8; rw [hS.out] at q8a q8b q8c))
   all_goals (
    go_wp2_with fail
    go_meet
    exact ⟨rfl, b8.out⟩)
end
end Go.Proofs.Ytncampbmnbhikaa
