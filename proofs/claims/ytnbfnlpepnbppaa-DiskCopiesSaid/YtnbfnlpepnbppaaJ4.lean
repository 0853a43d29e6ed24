/-
  Joined: DkVb DkVc DkVd DkPa.
-/
import Derived.Test.YtnbfnlpepnbppaaJ3
import Derived.Laws.Concat
import Derived.Test.YtnbfnlpepnbppaaJ2
-- DkVb
namespace Go.Proofs.Ytnbfnlpepnbppaa
set_option linter.unusedVariables false
set_option linter.unusedSimpArgs false
open Go.RowKit Go.Shelf
attribute [local irreducible] bytesL

theorem str_set {w : World} {g cap : Nat} {t : TypeId} {F : Nat → List Value} (h : Blk w g t (rowC cap F).toArray) (hF : ∀ i, (F i).length = 1) {i : Nat} (hi : i < cap) (v : Value) : Blk (w.setCell ⟨g, i, none⟩ v) g t (rowC cap (updL F i [v])).toArray := by
  refine Blk.set' h i v ?_
  rw [← rowC_upd hF (l := [v]) rfl hi]
  apply Array.ext'
  have hl : (rowC cap F).length = cap * 1 := rowC_len hF cap
  simp only [Nat.mul_one] at *
  rw [Array.toList_setIfInBounds, List.set_eq_take_append_cons_drop, if_pos (by simp; omega)]
  simp
/-- an own row of texts, one of them turned -/
theorem OwnS.str_upd {w : World} {g cap n i : Nat} {f : Nat → ByteArray} (h : OwnS w 0 9 1 (.slice (some ⟨g, 0, none⟩) n cap) n (fun i => [.string (f i)])) (hi : i < n) (s : ByteArray) :
    OwnS (w.setCell ⟨g, i, none⟩ (.string s)) 0 9 1 (.slice (some ⟨g, 0, none⟩) n cap) n (fun j => [.string (if j = i then s else f j)]) := by
  obtain ⟨g', cap', F, e, h1, h2, h3, h4, h5, h6⟩ := h.row (fun _ => rfl) (by omega)
  cases e
  refine OwnS.of_row (str_set h4 h5 (by omega) (.string s)) (updL_len h5 rfl) (fun j hj => ?_) (Nat.zero_le _) h2 h3
  unfold updL
  by_cases e : j = i
  · rw [if_pos e, if_pos e]
  · rw [if_neg e, if_neg e, h6 j hj]
set_option maxRecDepth 8000 in
set_option maxHeartbeats 4000000 in
theorem rsync_down (sv wv : Value) (d : DS) (hn0 : 0 < d.n) (hn : d.n ≤ 4096) (hm : d.m ≤ 100000) (hP : ∀ i, i < d.m → d.P i < d.n) (hf : -10 < d.f ∧ d.f < 9223372036854775808) (w : World) (h : RfAt w sv wv d) (hd : d.dn = true) :
    Calls Try.prog 30 #[rfv sv wv d] w fun r w' => ∃ sv' wv', r = .returned (.tuple #[rfv sv' wv' d.sync, .int .i64 d.serr]) ∧ RfAt w' sv' wv' d.sync ∧ Below w.heap.size w w' ∧ (∀ b, sv'.ownBlock = some b → sv.ownBlock = some b ∨ w.heap.size ≤ b) ∧ ∀ b, wv'.ownBlock = some b → wv.ownBlock = some b ∨ w.heap.size ≤ b := by
  have hs : d.sync = d := by unfold DS.sync; rw [if_pos hd]
  have he : d.serr = 7 := by unfold DS.serr; rw [if_pos (Or.inl hd)]
  rw [hs, he]
  obtain ⟨As, cs, Aw, cw, rfl, rfl⟩ := h.form
  have hfin : Hid (∀ (w' : World), Below w.heap.size w w' → RfAt w' (.slice As d.n cs) (.slice Aw d.m cw) d) := Lib.hid (fun w' hb => h.kept hb)
  unfold rfv
  rw [hd]
  clear hs he hd h hP
  generalize hkk : (d.k : Int) = k at *
  generalize hff : d.f = f at *
  go_enter Try.func30, Try.ntmps30
  clear hkk hff
  go_wp2_with fail
  exact bodyPost_ret (v := .tuple #[.agg #[.slice As d.n cs, .slice Aw d.m cw, .int .i64 f, .bool true, .int .i64 k], .int .i64 7]) (by simp [results, Try.results30, go_sem]) rfl ⟨_, _, rfl, hfin.out _ (by (repeat (first | exact Below.refl _ _ | assumption | refine below_drewN ?_ _ | refine bel_grow ?_ _ | refine Below.drew ?_ | refine bel_alloc ?_ _ | refine bel_set ?_ (by first | exact Nat.le_refl _ | (simp; done) | (simp; omega) | omega) _ | refine bel_trans ?_ (by assumption)))), by (repeat (first | exact Below.refl _ _ | assumption | refine below_drewN ?_ _ | refine bel_grow ?_ _ | refine Below.drew ?_ | refine bel_alloc ?_ _ | refine bel_set ?_ (by first | exact Nat.le_refl _ | (simp; done) | (simp; omega) | omega) _ | refine bel_trans ?_ (by assumption))), fun b => Or.inl, fun b => Or.inl⟩
section
attribute [local go_sem ↓] load_R store_R
set_option maxRecDepth 8000 in
set_option maxHeartbeats 4000000 in
theorem rsync_up (sv wv : Value) (d : DS) (hn0 : 0 < d.n) (hn : d.n ≤ 4096) (hm : d.m ≤ 100000) (hP : ∀ i, i < d.m → d.P i < d.n) (hf : -10 < d.f ∧ d.f < 9223372036854775808) (w : World) (h : RfAt w sv wv d) (hd : d.dn = false) :
    Calls Try.prog 30 #[rfv sv wv d] w fun r w' => ∃ sv' wv', r = .returned (.tuple #[rfv sv' wv' d.sync, .int .i64 d.serr]) ∧ RfAt w' sv' wv' d.sync ∧ Below w.heap.size w w' ∧ (∀ b, sv'.ownBlock = some b → sv.ownBlock = some b ∨ w.heap.size ≤ b) ∧ ∀ b, wv'.ownBlock = some b → wv.ownBlock = some b ∨ w.heap.size ≤ b := by
  obtain ⟨d5, hd5⟩ : ∃ d5, d5 = d.act := ⟨_, rfl⟩
  obtain ⟨q1, q2, q3, q4, q5⟩ := d.act_fields
  rw [← hd5] at q1 q2 q3 q4 q5
  have hR5 : RfAt w sv wv d5 := h.same q1 q2 q3 q4 q5
  obtain ⟨As, cs, Aw, cw, rfl, rfl⟩ := hR5.form
  have hsy : d.sync = if d.f = 0 then d5 else d5.flat := by unfold DS.sync; rw [if_neg (by rw [hd]; simp), ← hd5]
  have hse : d.serr = if d.f = 0 then 7 else 0 := by unfold DS.serr; rw [hd]; simp
  have hdn : d5.dn = decide (d.f = 0) := by
    rw [hd5]
    unfold DS.act
    by_cases h0 : d.f = 0
    · rw [if_pos h0]; exact (decide_eq_true h0).symm
    · rw [if_neg h0]
      split <;> exact hd.trans (decide_eq_false h0).symm
  have cA : ∀ W, Calls Try.prog 26 #[.agg #[.slice As d5.n cs, .slice Aw d5.m cw, .int .i64 d.f, .bool false, .int .i64 d.k]] W fun r w' => r = .returned (.agg #[.slice As d5.n cs, .slice Aw d5.m cw, .int .i64 d5.f, .bool d5.dn, .int .i64 d5.k]) ∧ Below W.heap.size W w' := fun W => by
    have := ract_any As Aw d5.n d5.m cs cw d hf W
    unfold rfv at this
    rw [hd, ← hd5] at this
    exact this
  obtain ⟨ds, hds⟩ : ∃ x, x = d.sync := ⟨_, rfl⟩
  obtain ⟨se, hsE⟩ : ∃ x, x = d.serr := ⟨_, rfl⟩
  rw [← hds, ← hsE]
  rw [← hds] at hsy
  rw [← hsE] at hse
  unfold rfv
  rw [hd]
  rw [← q1] at hn0 hn
  rw [← q3] at hm
  rw [← q1, ← q3, ← q4] at hP
  replace hP := Lib.hid hP
  replace hR5 := Lib.hid hR5
  replace cA := Lib.hid cA
  replace hdn := Lib.hid hdn
  clear q1 q2 q3 q4 q5 hds hsE hd5 h hf hd
  generalize d.f = f0 at *
  replace hsy := Lib.hid hsy
  replace hse := Lib.hid hse
  generalize hkk : (d.k : Int) = k0 at *
  clear hkk
  go_enter Try.func30, Try.ntmps30
  go_upto_region 3 with fail
  refine abs_wp (fun X => Below w.heap.size w X ∧ RB X w.heap.size (.slice As d5.n cs) (.slice Aw d5.m cw) (.int .i64 f0) (.bool false) (.int .i64 k0) ∧ RB X (w.heap.size + 1) (.slice none 0 0) (.slice none 0 0) (.int .i64 0) (.bool false) (.int .i64 0)) ⟨by (repeat (first | exact Below.refl _ _ | assumption | refine below_drewN ?_ _ | refine bel_grow ?_ _ | refine Below.drew ?_ | refine bel_alloc ?_ _ | refine bel_set ?_ (by first | exact Nat.le_refl _ | (simp; done) | (simp; omega) | omega) _ | refine bel_trans ?_ (by assumption))), (Blk.new _ _ _).alloc _, Blk.new' (by simp)⟩ ?_
  rintro X ⟨hbX, gX, rX⟩
  obtain ⟨g, hg⟩ : ∃ g, g = w.heap.size := ⟨_, rfl⟩
  rw [← hg] at gX rX
  rw [← hg]
  have hgh := Lib.hid hg
  clear hg
  have lX := gX.ld
  have hRX := Lib.hid (hR5.out.kept hbX)
  have hsX := hbX.size
  replace gX := Lib.hid gX
  replace rX := Lib.hid rX
  replace hbX := Lib.hid hbX
  go_wp2_with fail
  refine (cA.out _).mono ?_
  rintro e5 w5 ⟨rfl, hb5⟩
  obtain ⟨st5, g5, t5⟩ := (gX.out.kept hb5).st (a' := .slice As d5.n cs) (b' := .slice Aw d5.m cw) (c' := .int .i64 d5.f) (d' := .bool d5.dn) (e' := .int .i64 d5.k) rfl rfl rfl rfl rfl
  have hs5 := hb5.size
  have hlg := gX.out.lt
  have hTX := (tch_of hb5 (fun k => k = g)).trans t5
  have r5 := (rX.out.kept hb5).tch t5 (by omega)
  clear lX gX rX hb5 cA t5
  go_upto_region 4 with fail
  refine abs_wp (fun Y => Tch (fun k => k = g) X Y ∧ RB Y g (.slice As d5.n cs) (.slice Aw d5.m cw) (.int .i64 d5.f) (.bool d5.dn) (.int .i64 d5.k) ∧ RB Y (g + 1) (.slice none 0 0) (.slice none 0 0) (.int .i64 0) (.bool false) (.int .i64 0)) ⟨hTX, g5, r5⟩ ?_
  clear hTX g5 r5 st5 hs5
  rintro Y ⟨tY, gY, rY⟩
  have a3 := gY.c3
  have lY := gY.ld
  have y0 := gY.c0
  have f0_ := gY.fr 0
  have ylg := gY.lt
  by_cases h0 : f0 = 0
  · have hdn' := hdn.out
    rw [decide_eq_true h0] at hdn'
    have hsy' := Lib.hid (hsy.out.trans (if_pos h0))
    have hse' := Lib.hid (hse.out.trans (if_pos h0))
    rw [hdn'] at a3 lY gY
    obtain ⟨stY, rY2, tY2⟩ := rY.st (a' := .slice As d5.n cs) (b' := .slice Aw d5.m cw) (c' := .int .i64 d5.f) (d' := .bool true) (e' := .int .i64 d5.k) rfl rfl rfl rfl rfl
    have q0 := rY2.c0
    have q1 := rY2.c1
    have q2 := rY2.c2
    have q3 := rY2.c3
    have q4 := rY2.c4
    have hYg := (tY.mono (S' := fun k => k = g ∨ k = g + 1) (fun k _ x => Or.inl x)).trans (tY2.mono (S' := fun k => k = g ∨ k = g + 1) (fun k _ x => Or.inr x))
    have hfin := Lib.hid (hR5.out.kept (hbX.out.trans (hYg.below hsX (fun k h1 h2 => by have := hgh.out; omega))))
    have hbl := Lib.hid (hbX.out.trans (hYg.below hsX (fun k h1 h2 => by have := hgh.out; omega)))
    clear tY gY rY rY2 tY2 hYg hRX hbX hR5 hP hdn h0
    go_wp2_with fail
    exact bodyPost_ret (v := .tuple #[.agg #[.slice As d5.n cs, .slice Aw d5.m cw, .int .i64 d5.f, .bool true, .int .i64 d5.k], .int .i64 7]) (by simp [results, Try.results30, go_sem, q0, q1, q2, q3, q4]) rfl ⟨_, _, by rw [hsy'.out, hse'.out, hdn'], by rw [hsy'.out]; exact hfin.out, hbl.out, fun b => Or.inl, fun b => Or.inl⟩
  · have hdn' := hdn.out
    rw [decide_eq_false h0] at hdn'
    have hsy' := Lib.hid (hsy.out.trans (if_neg h0))
    have hse' := Lib.hid (hse.out.trans (if_neg h0))
    replace hdn' := Lib.hid hdn'
    rw [hdn'.out] at a3 lY gY
    have hRY := hR5.out.kept (hbX.out.trans (tY.below hsX (fun k h1 h2 => by have := hgh.out; omega)))
    obtain ⟨_, _, e1, _, _, hss⟩ := hRY.safe.ssis (fun _ => rfl)
    cases e1
    obtain ⟨v2, w2, happ, ho2, ht2, hob2⟩ := run_app_all (W := Y.alloc (.cells #[] 9)) (g := Y.heap.size) (c := cs) 28 Try.underlying28 info_St rfl (by omega) (by omega) (Blk.new _ _ _) (fun _ => rfl) (fun i u hu => by rw [List.mem_singleton] at hu; subst hu; rfl) (hss.below (bel_alloc (Below.refl _ _) _)) (by omega)
    obtain ⟨gs, capS, FS, rfl, _⟩ := ho2.row (fun _ => rfl) hn0
    have hY2 : Below Y.heap.size Y w2 := (bel_alloc (Below.refl _ _) _).trans (ht2.below (by simp) (fun k h1 h2 => by subst h2; exact absurd h1 (Nat.lt_irrefl _)))
    have hgs : Y.heap.size ≤ gs := by
      rcases hob2 with q | q
      · cases q; exact Nat.le_refl _
      · cases q; simp
    have hsY := tY.size
    have g2 := gY.kept hY2
    have r2 := rY.kept hY2
    have tS := (Tch.refl (fun k => k = g) w2).set (p := ⟨g, 0, none⟩) (fun _ => rfl) (.slice (some ⟨gs, 0, none⟩) d5.n capS)
    have z0 := g2.c0
    have zf := g2.fr 0
    have zl := g2.lt
    have hI : Hid (RB (w2.setCell ⟨g, 0, none⟩ (.slice (some ⟨gs, 0, none⟩) d5.n capS)) g (.slice (some ⟨gs, 0, none⟩) d5.n capS) (.slice Aw d5.m cw) (.int .i64 d5.f) (.bool false) (.int .i64 d5.k) ∧ RB (w2.setCell ⟨g, 0, none⟩ (.slice (some ⟨gs, 0, none⟩) d5.n capS)) (g + 1) (.slice none 0 0) (.slice none 0 0) (.int .i64 0) (.bool false) (.int .i64 0) ∧ OwnS (w2.setCell ⟨g, 0, none⟩ (.slice (some ⟨gs, 0, none⟩) d5.n capS)) 0 9 1 (.slice (some ⟨gs, 0, none⟩) d5.n capS) d5.n (fun i => [.string (strF (curD d5.S d5.P d5.D 0 i) 512)]) ∧ Below w.heap.size w (w2.setCell ⟨g, 0, none⟩ (.slice (some ⟨gs, 0, none⟩) d5.n capS))) :=
      Lib.hid ⟨g2.s0 _, r2.tch tS (by omega), ho2.tch tS (fun b x y => by have : gs = b := Option.some.inj x; omega), ((hbX.out.trans (tY.below hsX (fun k h1 h2 => by have := hgh.out; omega))).trans (hY2.mono (by omega))).trans (tS.below (by have := hY2.size; omega) (fun k h1 h2 => by have := hgh.out; omega))⟩
    have hgs' := Lib.hid (show g + 1 < gs from by have := rY.lt; omega)
    have hwb := Lib.hid (show ∀ b, (Value.slice Aw d5.m cw).ownBlock = some b → b < w.heap.size from hR5.out.waits.ltB)
    clear hRY hss ho2 ht2 hob2 hY2 hgs hsY g2 r2 tS gY rY tY hRX hdn lY
    go_upto_region 7 with (at_builtin; refine wpList_append_at _ rfl _ _ 28 rfl _ _ rfl rfl happ ?_)
    refine abs_wp (fun U => RB U g (.slice (some ⟨gs, 0, none⟩) d5.n capS) (.slice Aw d5.m cw) (.int .i64 d5.f) (.bool false) (.int .i64 d5.k) ∧ RB U (g + 1) (.slice none 0 0) (.slice none 0 0) (.int .i64 0) (.bool false) (.int .i64 0) ∧ OwnS U 0 9 1 (.slice (some ⟨gs, 0, none⟩) d5.n capS) d5.n (fun i => [.string (strF (curD d5.S d5.P d5.D 0 i) 512)]) ∧ Below w.heap.size w U) hI.out ?_
    clear hI happ z0 zf zl a3 y0 f0_ ylg
    rintro U ⟨gU, rU, oU, bU⟩
    replace gU := Lib.hid gU
    replace rU := Lib.hid rU
    replace oU := Lib.hid oU
    replace bU := Lib.hid bU
    go_wp2_with fail
    go_loopw [4] (fun i wr => ∃ (j : Nat), j ≤ d5.m ∧ i = .int .i64 j ∧ Hid (RB wr g (.slice (some ⟨gs, 0, none⟩) d5.n capS) (.slice Aw d5.m cw) (.int .i64 d5.f) (.bool false) (.int .i64 d5.k)) ∧ Hid (RB wr (g + 1) (.slice none 0 0) (.slice none 0 0) (.int .i64 0) (.bool false) (.int .i64 0)) ∧ Hid (OwnS wr 0 9 1 (.slice (some ⟨gs, 0, none⟩) d5.n capS) d5.n (fun i => [.string (strF (curD d5.S d5.P d5.D j i) 512)])) ∧ Hid (Below w.heap.size w wr)) (fun i _ => d5.m - (intOf i).toNat)
    case atStart => exact ⟨0, by omega, rfl, gU, rU, oU, bU⟩
    case round =>
      clear gU rU oU bU
      obtain ⟨j, hj, rfl, hG, hr, hO, hb⟩ := hrel
      have x0 := hG.out.c0
      have x1 := hG.out.c1
      have xl := hG.out.lt
      by_cases hlt : j < d5.m
      · obtain ⟨_, _, e1, _, _, hww⟩ := (hR5.out.waits.kept hb.out).ssis (fun _ => rfl)
        cases e1
        obtain ⟨bw, ow, rfl, hlw, hcw⟩ := ss_at hww hlt
        have k0_ : wr.cell? ⟨bw, ow + j * 2, none⟩ = some (.int .i64 (d5.P j)) := by have := hcw 0 _ rfl; simpa using this
        have k1_ : wr.cell? ⟨bw, ow + j * 2 + 1, none⟩ = some (.string (strF (d5.D j) 512)) := hcw 1 _ rfl
        have hPj := hP.out j hlt
        obtain ⟨_, _, FS', e2, _, s2, s3, s4, s5, s6⟩ := hO.out.row (fun _ => rfl) hn0
        cases e2
        have k2_ : ∃ u, wr.cell? ⟨gs, d5.P j, none⟩ = some u := ⟨_, by
          rw [Blk.cell s4 (d5.P j), List.getElem?_toArray]
          have := fm_at (f := FS') (n := capS) s5 (show 0 < 1 by omega) (show d5.P j < capS by omega)
          simp only [Nat.mul_one, Nat.add_zero] at this
          exact this.trans (by rw [s6 _ hPj]; rfl)⟩
        obtain ⟨u2, k2⟩ := k2_
        have kf := Blk.frozen s4 (d5.P j)
        have kl := s4.lt
        have hfin := Lib.hid (And.intro (hG.out.tch ((Tch.refl (fun k => k = gs) wr).set (p := ⟨gs, d5.P j, none⟩) (fun _ => rfl) (.string (strF (d5.D j) 512))) (by have := hgs'.out; omega)) (And.intro (hr.out.tch ((Tch.refl (fun k => k = gs) wr).set (p := ⟨gs, d5.P j, none⟩) (fun _ => rfl) (.string (strF (d5.D j) 512))) (by have := hgs'.out; omega)) (And.intro ((hO.out.str_upd hPj (strF (d5.D j) 512)).congr (f' := fun i => [.string (strF (curD d5.S d5.P d5.D (j + 1) i) 512)]) (fun i hi => by
          show [Value.string _] = [Value.string (strF (if d5.P j = i then d5.D j else curD d5.S d5.P d5.D j i) 512)]
          by_cases e : i = d5.P j
          · rw [if_pos e, if_pos e.symm]
          · rw [if_neg e, if_neg (fun x => e x.symm)])) (hb.out.trans (((Tch.refl (fun k => k = gs) wr).set (p := ⟨gs, d5.P j, none⟩) (fun _ => rfl) (.string (strF (d5.D j) 512))).below hb.out.size (fun k h1 h2 => by have := hgs'.out; have := hgh.out; omega))))))
        clear hww hcw s2 s3 s4 s5 s6 hG hr hO hb
        generalize d5.P j = pj at *
        generalize strF (d5.D j) 512 = sj at *
        go_wp2_with fail
        go_region
        all_goals
          go_wp2_with fail
          go_roundw
        case rel => exact ⟨j + 1, by omega, by go_num, Lib.hid hfin.out.1, Lib.hid hfin.out.2.1, Lib.hid hfin.out.2.2.1, Lib.hid (Below.drew hfin.out.2.2.2)⟩
        case measure => simp [intOf]; omega
      · obtain rfl : j = d5.m := by omega
        have xf := hG.out.fr 1
        have gF := hG.out.s1 (.slice none 0 0)
        have tF := (Tch.refl (fun k => k = g) wr).set (p := ⟨g, 1, none⟩) (fun _ => rfl) (.slice none 0 0)
        have lF := gF.ld
        have hgl := hgs'.out
        obtain ⟨stF, rF, tF2⟩ := (hr.out.tch tF (by omega)).st (a' := .slice (some ⟨gs, 0, none⟩) d5.n capS) (b' := .slice none 0 0) (c' := .int .i64 d5.f) (d' := .bool false) (e' := .int .i64 d5.k) rfl rfl rfl rfl rfl
        have q0 := rF.c0
        have q1 := rF.c1
        have q2 := rF.c2
        have q3 := rF.c3
        have q4 := rF.c4
        have hT := (tF.mono (S' := fun k => k = g ∨ k = g + 1) (fun k _ x => Or.inl x)).trans (tF2.mono (S' := fun k => k = g ∨ k = g + 1) (fun k _ x => Or.inr x))
        have hfin := Lib.hid (show RfAt _ (.slice (some ⟨gs, 0, none⟩) d5.n capS) (.slice none 0 0) d5.flat from ⟨hO.out.tch hT (fun b x y => by have : gs = b := Option.some.inj x; have := hgs'.out; omega), OwnS.nil _ _ _ _ _⟩)
        have hbl := Lib.hid (hb.out.trans (hT.below hb.out.size (fun k h1 h2 => by have := hgh.out; omega)))
        have hgw := Lib.hid (show w.heap.size ≤ gs by have := hgh.out; omega)
        clear hG hr hO hb gF tF rF tF2 hT hgl hR5 hP
        have hE := Lib.hid (show ds.f = d5.f ∧ ds.dn = false ∧ ds.k = d5.k ∧ se = 0 from ⟨by rw [hsy'.out]; rfl, by rw [hsy'.out]; exact hdn'.out, by rw [hsy'.out]; rfl, hse'.out⟩)
        go_wp2_with fail
        exact bodyPost_ret (v := .tuple #[.agg #[.slice (some ⟨gs, 0, none⟩) d5.n capS, .slice none 0 0, .int .i64 d5.f, .bool false, .int .i64 d5.k], .int .i64 0]) (by simp [results, Try.results30, go_sem, q0, q1, q2, q3, q4]) rfl ⟨_, _, by rw [hE.out.1, hE.out.2.1, hE.out.2.2.1, hE.out.2.2.2], by rw [hsy'.out]; exact hfin.out, hbl.out, fun b x => Or.inr (by have : gs = b := Option.some.inj x; have := hgw.out; omega), fun b x => by simp [Value.ownBlock] at x⟩
end
theorem rsync_any (sv wv : Value) (d : DS) (hn0 : 0 < d.n) (hn : d.n ≤ 4096) (hm : d.m ≤ 100000) (hP : ∀ i, i < d.m → d.P i < d.n) (hf : -10 < d.f ∧ d.f < 9223372036854775808) (w : World) (h : RfAt w sv wv d) :
    Calls Try.prog 30 #[rfv sv wv d] w fun r w' => ∃ sv' wv', r = .returned (.tuple #[rfv sv' wv' d.sync, .int .i64 d.serr]) ∧ RfAt w' sv' wv' d.sync ∧ Below w.heap.size w w' ∧ (∀ b, sv'.ownBlock = some b → sv.ownBlock = some b ∨ w.heap.size ≤ b) ∧ ∀ b, wv'.ownBlock = some b → wv.ownBlock = some b ∨ w.heap.size ≤ b := by
  cases hd : d.dn with
  | true => exact rsync_down sv wv d hn0 hn hm hP hf w h hd
  | false => exact rsync_up sv wv d hn0 hn hm hP hf w h hd
end Go.Proofs.Ytnbfnlpepnbppaa
-- DkVc
namespace Go.Proofs.Ytnbfnlpepnbppaa
set_option linter.unusedVariables false
set_option linter.unusedSimpArgs false
open Go.RowKit Go.Shelf
attribute [local irreducible] bytesL

theorem bound_any (z : Int) (w : World) : Calls Try.prog 38 #[.int .i64 z] w fun r w' => r = .returned (.int .i64 (clampN z)) ∧ Below w.heap.size w w' := by
  by_cases h0 : z < 0
  · have e : (clampN z : Int) = 0 := by unfold clampN; omega
    rw [e]
    go_enter Try.func38, Try.ntmps38
    go_wp2_with fail
    go_ret
    exact ⟨rfl, Below.refl _ _⟩
  · by_cases h1 : 512 < z
    · have e : (clampN z : Int) = 512 := by unfold clampN; omega
      rw [e]
      go_enter Try.func38, Try.ntmps38
      go_wp2_with fail
      go_ret
      exact ⟨rfl, Below.refl _ _⟩
    · have e : (clampN z : Int) = z := by unfold clampN; omega
      rw [e]
      go_enter Try.func38, Try.ntmps38
      go_wp2_with fail
      go_ret
      exact ⟨rfl, Below.refl _ _⟩
def shD (d : Nat → Int) (a : Nat) : Nat → Int := fun i => d (a + i)
theorem strF_cut {d : Nat → Int} {n a b : Nat} (h1 : a ≤ b) (h2 : b ≤ n) : (strF d n).extract a b = strF (shD d a) (b - a) := by
  have h : ((strF d n).extract a b).data.toList = (strF (shD d a) (b - a)).data.toList := by
    have hl : ((strF d n).extract a b).data.toList = (strF d n).data.toList.extract a b := by simp
    rw [hl, strF_list, strF_list]
    apply List.ext_getElem?
    intro i
    rw [List.extract_eq_take_drop]
    rw [List.getElem?_take]
    split
    · rename_i hi
      rw [List.getElem?_drop, List.getElem?_map, List.getElem?_map, List.getElem?_range (by omega), List.getElem?_range hi]
      rfl
    · rename_i hi
      rw [List.getElem?_eq_none (by simp; omega)]
  cases hx : (strF d n).extract a b with
  | mk x => cases hy : strF (shD d a) (b - a) with
    | mk y => rw [hx, hy] at h; congr 1; exact Array.toList_inj.1 h
theorem mix_str (P : Program) (d e : Nat → Int) {a b : Nat} (hab : a < b) (hb : b ≤ 512) : ∃ R, (∀ W, (Op.stringOp .add ((strF d 512).extract 0 a) ((strF e 512).extract a b)).run P W = .ok (.string R) W) ∧ ∀ W, (Op.stringOp .add R ((strF d 512).extract b 512)).run P W = .ok (.string (strF (mixD d e a b) 512)) W := by
  rw [strF_cut (Nat.zero_le _) (by omega), strF_cut (by omega) hb, strF_cut hb (Nat.le_refl _)]
  refine ⟨_, fun W => run_string_add_sum (P := P) (w := W) _ _ (by rw [strF_size, strF_size]; omega), fun W => ?_⟩
  rw [run_string_add_sum (P := P) (w := W) _ _ (by rw [strF_cat, strF_size, strF_size]; omega), strF_cat, strF_cat, show a - 0 + (b - a) + (512 - b) = 512 by omega]
  have key : strF (cat (cat (shD d 0) (a - 0) (shD e a)) (a - 0 + (b - a)) (shD d b)) 512 = strF (mixD d e a b) 512 := ?_
  · rw [key]
  refine strF_congr (fun i hi => ?_)
  unfold cat mixD shD
  by_cases h1 : i < a
  · rw [if_pos (by omega), if_pos (by omega), if_neg (by omega), Nat.zero_add]
  · by_cases h2 : i < b
    · rw [if_pos (by omega), if_neg (by omega), if_pos (by omega)]
      congr 1; omega
    · rw [if_neg (by omega), if_neg (by omega)]
      congr 1; omega
section
attribute [local go_sem ↓] load_R store_R
set_option maxRecDepth 8000 in
set_option maxHeartbeats 4000000 in
theorem rcrash_any (sv wv : Value) (d : DS) (A : Option Addr) (nl c : Nat) (lf lt : Nat → Int) (hlc : nl ≤ c) (hcm : c ≤ maxLen) (hn0 : 0 < d.n) (hn : d.n ≤ 4096) (hm : d.m ≤ 100000) (hP : ∀ i, i < d.m → d.P i < d.n) (w : World) (h : RfAt w sv wv d) (hs : SsIs w A nl 2 (fun i => [.int .i64 (lf i), .int .i64 (lt i)])) :
    Calls Try.prog 32 #[rfv sv wv d, .slice A nl c] w fun r w' => ∃ sv' wv', r = .returned (rfv sv' wv' (d.crash lf lt nl)) ∧ RfAt w' sv' wv' (d.crash lf lt nl) ∧ Below w.heap.size w w' ∧ (∀ b, sv'.ownBlock = some b → sv.ownBlock = some b ∨ w.heap.size ≤ b) ∧ ∀ b, wv'.ownBlock = some b → wv.ownBlock = some b ∨ w.heap.size ≤ b := by
  obtain ⟨As, cs, Aw, cw, rfl, rfl⟩ := h.form
  unfold maxLen at hcm
  unfold rfv
  have hR := Lib.hid h
  have hend : Hid (∀ W g c5, OwnS W 0 9 1 (.slice (some ⟨g, 0, none⟩) d.n c5) d.n (fun i => [.string (strF (crD d.S d.P d.D lf lt nl d.m i) 512)]) → RfAt W (.slice (some ⟨g, 0, none⟩) d.n c5) (.slice none 0 0) (d.crash lf lt nl)) := Lib.hid (fun W g c5 ho => ⟨ho, OwnS.nil _ _ _ _ _⟩)
  have hen : Hid ((d.crash lf lt nl).f = -1 ∧ (d.crash lf lt nl).dn = false ∧ (d.crash lf lt nl).k = d.k) := Lib.hid ⟨rfl, rfl, rfl⟩
  generalize d.crash lf lt nl = dc at *
  replace hP := Lib.hid hP
  replace hs := Lib.hid hs
  clear h
  generalize d.f = f0 at *
  generalize hkk : (d.k : Int) = k0 at *
  replace hkk := Lib.hid hkk
  generalize d.dn = dn at *
  go_enter Try.func32, Try.ntmps32
  go_upto_region 1 with fail
  refine abs_wp (fun X => Below w.heap.size w X ∧ RB X w.heap.size (.slice As d.n cs) (.slice Aw d.m cw) (.int .i64 f0) (.bool dn) (.int .i64 k0) ∧ RB X (w.heap.size + 1) (.slice none 0 0) (.slice none 0 0) (.int .i64 0) (.bool false) (.int .i64 0)) ⟨by (repeat (first | exact Below.refl _ _ | assumption | refine below_drewN ?_ _ | refine bel_grow ?_ _ | refine Below.drew ?_ | refine bel_alloc ?_ _ | refine bel_set ?_ (by first | exact Nat.le_refl _ | (simp; done) | (simp; omega) | omega) _ | refine bel_trans ?_ (by assumption))), (Blk.new _ _ _).alloc _, Blk.new' (by simp)⟩ ?_
  rintro Y ⟨hbX, gY, rY⟩
  obtain ⟨g, hg⟩ : ∃ g, g = w.heap.size := ⟨_, rfl⟩
  rw [← hg] at gY rY
  rw [← hg]
  have hgh := Lib.hid hg
  clear hg
  have y0 := gY.c0
  have f0_ := gY.fr 0
  have ylg := gY.lt
  have hRY := hR.out.kept hbX
  obtain ⟨_, _, e1, _, _, hss⟩ := hRY.safe.ssis (fun _ => rfl)
  cases e1
  obtain ⟨v2, w2, happ, ho2, ht2, hob2⟩ := run_app_all (W := Y.alloc (.cells #[] 9)) (g := Y.heap.size) (c := cs) 28 Try.underlying28 info_St rfl (by omega) (by omega) (Blk.new _ _ _) (fun _ => rfl) (fun i u hu => by rw [List.mem_singleton] at hu; subst hu; rfl) (hss.below (bel_alloc (Below.refl _ _) _)) (by omega)
  obtain ⟨gs, capS, FS, rfl, _⟩ := ho2.row (fun _ => rfl) hn0
  have hY2 : Below Y.heap.size Y w2 := (bel_alloc (Below.refl _ _) _).trans (ht2.below (by simp) (fun k h1 h2 => by subst h2; exact absurd h1 (Nat.lt_irrefl _)))
  have hgs : Y.heap.size ≤ gs := by
    rcases hob2 with q | q
    · cases q; exact Nat.le_refl _
    · cases q; simp
  have hsY := hbX.size
  have g2 := gY.kept hY2
  have r2 := rY.kept hY2
  have tS := (Tch.refl (fun k => k = g) w2).set (p := ⟨g, 0, none⟩) (fun _ => rfl) (.slice (some ⟨gs, 0, none⟩) d.n capS)
  have z0 := g2.c0
  have zf := g2.fr 0
  have zl := g2.lt
  have hI : Hid (RB (w2.setCell ⟨g, 0, none⟩ (.slice (some ⟨gs, 0, none⟩) d.n capS)) g (.slice (some ⟨gs, 0, none⟩) d.n capS) (.slice Aw d.m cw) (.int .i64 f0) (.bool dn) (.int .i64 k0) ∧ RB (w2.setCell ⟨g, 0, none⟩ (.slice (some ⟨gs, 0, none⟩) d.n capS)) (g + 1) (.slice none 0 0) (.slice none 0 0) (.int .i64 0) (.bool false) (.int .i64 0) ∧ OwnS (w2.setCell ⟨g, 0, none⟩ (.slice (some ⟨gs, 0, none⟩) d.n capS)) 0 9 1 (.slice (some ⟨gs, 0, none⟩) d.n capS) d.n (fun i => [.string (strF (crD d.S d.P d.D lf lt nl 0 i) 512)]) ∧ Below w.heap.size w (w2.setCell ⟨g, 0, none⟩ (.slice (some ⟨gs, 0, none⟩) d.n capS))) :=
    Lib.hid ⟨g2.s0 _, r2.tch tS (by omega), ho2.tch tS (fun b x y => by have : gs = b := Option.some.inj x; omega), (hbX.trans (hY2.mono (by omega))).trans (tS.below (by have := hY2.size; omega) (fun k h1 h2 => by have := hgh.out; omega))⟩
  have hgs' := Lib.hid (show g + 1 < gs from by have := rY.lt; omega)
  clear hRY hss ho2 ht2 hob2 hY2 hgs hsY g2 r2 tS gY rY hbX
  go_upto_region 2 with (at_builtin; refine wpList_append_at _ rfl _ _ 28 rfl _ _ rfl rfl happ ?_)
  refine abs_wp (fun U => RB U g (.slice (some ⟨gs, 0, none⟩) d.n capS) (.slice Aw d.m cw) (.int .i64 f0) (.bool dn) (.int .i64 k0) ∧ RB U (g + 1) (.slice none 0 0) (.slice none 0 0) (.int .i64 0) (.bool false) (.int .i64 0) ∧ OwnS U 0 9 1 (.slice (some ⟨gs, 0, none⟩) d.n capS) d.n (fun i => [.string (strF (crD d.S d.P d.D lf lt nl 0 i) 512)]) ∧ Below w.heap.size w U) hI.out ?_
  clear hI happ z0 zf zl y0 f0_ ylg
  rintro U ⟨gU, rU, oU, bU⟩
  replace gU := Lib.hid gU
  replace rU := Lib.hid rU
  replace oU := Lib.hid oU
  replace bU := Lib.hid bU
  go_wp2_with fail
  go_loopw [5] (fun i wr => ∃ (j : Nat), j ≤ d.m ∧ i = .int .i64 j ∧ Hid (RB wr g (.slice (some ⟨gs, 0, none⟩) d.n capS) (.slice Aw d.m cw) (.int .i64 f0) (.bool dn) (.int .i64 k0)) ∧ Hid (RB wr (g + 1) (.slice none 0 0) (.slice none 0 0) (.int .i64 0) (.bool false) (.int .i64 0)) ∧ Hid (OwnS wr 0 9 1 (.slice (some ⟨gs, 0, none⟩) d.n capS) d.n (fun i => [.string (strF (crD d.S d.P d.D lf lt nl j i) 512)])) ∧ Hid (Below w.heap.size w wr)) (fun i _ => d.m - (intOf i).toNat)
  case atStart => exact ⟨0, by omega, rfl, gU, rU, oU, bU⟩
  case round =>
    clear gU rU oU bU
    obtain ⟨j, hj, rfl, hG, hr, hO, hb⟩ := hrel
    have x0 := hG.out.c0
    have x1 := hG.out.c1
    have xl := hG.out.lt
    by_cases hgo : j < d.m ∧ j < nl
    · obtain ⟨hlt, hln⟩ := hgo
      obtain ⟨_, _, e1, _, _, hww⟩ := (hR.out.waits.kept hb.out).ssis (fun _ => rfl)
      cases e1
      obtain ⟨bw, ow, rfl, hlw, hcw⟩ := ss_at hww hlt
      have k0_ : wr.cell? ⟨bw, ow + j * 2, none⟩ = some (.int .i64 (d.P j)) := by have := hcw 0 _ rfl; simpa using this
      have k1_ : wr.cell? ⟨bw, ow + j * 2 + 1, none⟩ = some (.string (strF (d.D j) 512)) := hcw 1 _ rfl
      have hPj := hP.out j hlt
      obtain ⟨bl, ol, rfl, hll, hcl⟩ := ss_at (hs.out.below hb.out) hln
      have l0_ : wr.cell? ⟨bl, ol + j * 2, none⟩ = some (.int .i64 (lf j)) := by have := hcl 0 _ rfl; simpa using this
      have l1_ : wr.cell? ⟨bl, ol + j * 2 + 1, none⟩ = some (.int .i64 (lt j)) := hcl 1 _ rfl
      clear hww hcw hcl
      have hcr : ∀ b, crD d.S d.P d.D lf lt nl (j + 1) b = if d.P j = b then mixD (crD d.S d.P d.D lf lt nl j b) (d.D j) (clampN (lf j)) (clampN (lt j)) else crD d.S d.P d.D lf lt nl j b := fun b => by
        show (if j < nl ∧ d.P j = b then _ else _) = _
        by_cases e : d.P j = b
        · rw [if_pos ⟨hln, e⟩, if_pos e]
        · rw [if_neg (fun x => e x.2), if_neg e]
      replace hcr := Lib.hid hcr
      have cB := Lib.hid (fun z W => bound_any z W)
      have ha := clampN_le (lf j)
      have hb5 := clampN_le (lt j)
      go_upto_region 6 with fail
      refine abs_wp (fun X => Below wr.heap.size wr X ∧ X.cell? ⟨wr.heap.size, 0, none⟩ = some (.int .i64 (d.P j)) ∧ X.cell? ⟨wr.heap.size, 1, none⟩ = some (.string (strF (d.D j) 512)) ∧ wr.heap.size < X.heap.size) ⟨bel_alloc (Below.refl _ _) _, (Blk.new _ _ _).cell 0, (Blk.new _ _ _).cell 1, by simp⟩ ?_
      rintro X ⟨hbX, m0, m1, mlt⟩
      replace l0_ := keepc hbX l0_
      replace l1_ := keepc hbX l1_
      have hGX := Lib.hid (hG.out.kept hbX)
      have hrX := Lib.hid (hr.out.kept hbX)
      have hOX := Lib.hid (hO.out.kept hbX)
      have hBX := Lib.hid (bel_eld hb.out hbX)
      have hlX := hbX.size
      have hllX : bl < X.heap.size := by omega
      clear hG hr hO hb hbX k0_ k1_ x0 x1
      go_upto_region 6 with fail
      first | (with_reducible refine rgrow2 (by kernel_rfl) (by kernel_rfl) ?_) | (refine rgrow (by kernel_rfl) (by kernel_rfl) ?_)
      repeat (go_big_quiet_step (((go_at_call 38; exact grow_call (cB.out _ _)))))
      refine wpQuiet_nil ?_
      intro dr
      obtain ⟨Z, hZ⟩ : ∃ Z, Z = Grow X dr := ⟨_, rfl⟩
      have hbZ : Below X.heap.size X Z := by rw [hZ]; exact grow_below _ _
      rw [← hZ]
      clear hZ
      replace m0 := keepc hbZ m0
      replace m1 := keepc hbZ m1
      have hGZ := Lib.hid (hGX.out.kept hbZ)
      have hrZ := Lib.hid (hrX.out.kept hbZ)
      have hOZ := Lib.hid (hOX.out.kept hbZ)
      have hBZ := Lib.hid (bel_eld hBX.out hbZ)
      have hlZ := hbZ.size
      clear hGX hrX hOX hBX hbZ l0_ l1_
      generalize clampN (lf j) = a at *
      generalize clampN (lt j) = b at *
      by_cases hab : a < b
      · obtain ⟨_, _, FS', e2, _, s2, s3, s4, s5, s6⟩ := hOZ.out.row (fun _ => rfl) hn0
        cases e2
        have k2 : Z.cell? ⟨gs, d.P j, none⟩ = some (.string (strF (crD d.S d.P d.D lf lt nl j (d.P j)) 512)) := by
          rw [Blk.cell s4 (d.P j), List.getElem?_toArray]
          have := fm_at (f := FS') (n := capS) s5 (show 0 < 1 by omega) (show d.P j < capS by omega)
          simp only [Nat.mul_one, Nat.add_zero] at this
          exact this.trans (by rw [s6 _ hPj]; rfl)
        have kf := Blk.frozen s4 (d.P j)
        have kl := s4.lt
        have z0 := hGZ.out.c0
        have zl := hGZ.out.lt
        obtain ⟨R, qa, qb⟩ := mix_str Try.prog (crD d.S d.P d.D lf lt nl j (d.P j)) (d.D j) hab hb5
        have hst := (hOZ.out.str_upd hPj (strF (mixD (crD d.S d.P d.D lf lt nl j (d.P j)) (d.D j) a b) 512)).congr (f' := fun i => [.string (strF (crD d.S d.P d.D lf lt nl (j + 1) i) 512)]) (fun i hi => by
            rw [hcr.out i]
            by_cases e : i = d.P j
            · rw [if_pos e, if_pos e.symm, e]
            · rw [if_neg e, if_neg (fun x => e x.symm)])
        have e1 : (strF (crD d.S d.P d.D lf lt nl j (d.P j)) 512).size = 512 := strF_size _ _
        have e2 : (strF (d.D j) 512).size = 512 := strF_size _ _
        generalize strF (mixD (crD d.S d.P d.D lf lt nl j (d.P j)) (d.D j) a b) 512 = S2 at *
        generalize strF (crD d.S d.P d.D lf lt nl j (d.P j)) 512 = S0 at *
        generalize strF (d.D j) 512 = S1 at *
        generalize d.P j = pj at *
        have tS := (Tch.refl (fun k => k = gs) Z).set (p := ⟨gs, pj, none⟩) (fun _ => rfl) (.string S2)
        have hfin := Lib.hid (And.intro (hGZ.out.tch tS (by have := hgs'.out; omega)) (And.intro (hrZ.out.tch tS (by have := hgs'.out; omega)) (And.intro hst (hBZ.out.trans (tS.below hBZ.out.size (fun k h1 h2 => by have := hgs'.out; have := hgh.out; omega))))))
        have habI : (a : Int) < (b : Int) := by omega
        have mlt' : wr.heap.size < Z.heap.size := by omega
        clear s2 s3 s4 s5 s6 hst tS hGZ hrZ hOZ hBZ hcr cB ha
        go_wp2_with fail
        go_region
        go_wp2_with fail
        go_roundw
        case rel => exact ⟨j + 1, by omega, by go_num, Lib.hid hfin.out.1, Lib.hid hfin.out.2.1, Lib.hid hfin.out.2.2.1, Lib.hid (Below.drew hfin.out.2.2.2)⟩
        case measure => simp [intOf]; omega
      · have habI : ¬ (a : Int) < (b : Int) := by omega
        have hO2 := Lib.hid (hOZ.out.congr (f' := fun i => [.string (strF (crD d.S d.P d.D lf lt nl (j + 1) i) 512)]) (fun i hi => by
            rw [hcr.out i]
            by_cases e : d.P j = i
            · rw [if_pos e]
              congr 2
              refine strF_congr (fun x hx => ?_)
              unfold mixD
              rw [if_neg (by omega)]
            · rw [if_neg e]))
        clear hcr cB hOZ
        go_wp2_with fail
        go_roundw
        case rel => exact ⟨j + 1, by omega, by go_num, hGZ, hrZ, hO2, hBZ⟩
        case measure => simp [intOf]; omega
    · have hcf : ∀ b, crD d.S d.P d.D lf lt nl d.m b = crD d.S d.P d.D lf lt nl j b := fun b => by
        by_cases e : j = d.m
        · rw [e]
        · rw [crD_far (m := d.m) (by omega), crD_far (m := j) (by omega)]
      have xf1 := hG.out.fr 1
      have xf2 := hG.out.fr 2
      have xf3 := hG.out.fr 3
      have x2 := hG.out.c2
      have x3 := hG.out.c3
      have gF := ((hG.out.s1 (.slice none 0 0)).s3 (.bool false)).s2 (.int .i64 (-1))
      have tF := (((Tch.refl (fun k => k = g) wr).set (p := ⟨g, 1, none⟩) (fun _ => rfl) (.slice none 0 0)).set (p := ⟨g, 3, none⟩) (fun _ => rfl) (.bool false)).set (p := ⟨g, 2, none⟩) (fun _ => rfl) (.int .i64 (-1))
      have lF := gF.ld
      obtain ⟨stF, rF, tF2⟩ := (hr.out.tch tF (by omega)).st (a' := .slice (some ⟨gs, 0, none⟩) d.n capS) (b' := .slice none 0 0) (c' := .int .i64 (-1)) (d' := .bool false) (e' := .int .i64 k0) rfl rfl rfl rfl rfl
      have q0 := rF.c0
      have q1 := rF.c1
      have q2 := rF.c2
      have q3 := rF.c3
      have q4 := rF.c4
      have hT := (tF.mono (S' := fun k => k = g ∨ k = g + 1) (fun k _ x => Or.inl x)).trans (tF2.mono (S' := fun k => k = g ∨ k = g + 1) (fun k _ x => Or.inr x))
      have hfin := Lib.hid (hend.out _ gs capS ((hO.out.congr (f' := fun i => [.string (strF (crD d.S d.P d.D lf lt nl d.m i) 512)]) (fun i hi => by rw [hcf i])).tch hT (fun b x y => by have : gs = b := Option.some.inj x; have := hgs'.out; omega)))
      have hbl := Lib.hid (hb.out.trans (hT.below hb.out.size (fun k h1 h2 => by have := hgh.out; omega)))
      have hgw := Lib.hid (show w.heap.size ≤ gs by have := hgh.out; have := hgs'.out; omega)
      clear hG hr hO hb gF tF rF tF2 hT hR hP hcf
      have hE := Lib.hid (show dc.f = -1 ∧ dc.dn = false ∧ (dc.k : Int) = k0 from ⟨hen.out.1, hen.out.2.1, by rw [hen.out.2.2]; exact hkk.out⟩)
      by_cases hmm : j < d.m
      · have hjn : ¬ j < nl := fun x => hgo ⟨hmm, x⟩
        clear hgo
        go_wp2_with fail
        exact bodyPost_ret (v := .agg #[.slice (some ⟨gs, 0, none⟩) d.n capS, .slice none 0 0, .int .i64 (-1), .bool false, .int .i64 k0]) (by simp [results, Try.results32, go_sem, q0, q1, q2, q3, q4]) rfl ⟨_, _, by rw [hE.out.1, hE.out.2.1, hE.out.2.2], hfin.out, hbl.out, fun b x => Or.inr (by have : gs = b := Option.some.inj x; have := hgw.out; omega), fun b x => by simp [Value.ownBlock] at x⟩
      · clear hgo
        go_wp2_with fail
        exact bodyPost_ret (v := .agg #[.slice (some ⟨gs, 0, none⟩) d.n capS, .slice none 0 0, .int .i64 (-1), .bool false, .int .i64 k0]) (by simp [results, Try.results32, go_sem, q0, q1, q2, q3, q4]) rfl ⟨_, _, by rw [hE.out.1, hE.out.2.1, hE.out.2.2], hfin.out, hbl.out, fun b x => Or.inr (by have : gs = b := Option.some.inj x; have := hgw.out; omega), fun b x => by simp [Value.ownBlock] at x⟩
end
end Go.Proofs.Ytnbfnlpepnbppaa
-- DkVd
namespace Go.Proofs.Ytnbfnlpepnbppaa
set_option linter.unusedVariables false
set_option linter.unusedSimpArgs false
open Go.RowKit Go.Shelf
attribute [local irreducible] bytesL

set_option maxRecDepth 8000 in
set_option maxHeartbeats 4000000 in
theorem alike_any (B : Nat) (X : Nat → Prop) (sv wv : Value) (d : DS) (w : World) (hD : DkX w B X d) (hR : RfAt w sv wv d) :
    Calls Try.prog 24 #[.pointer (some ⟨B, 0, none⟩), rfv sv wv d] w fun r w' => r = .returned (.bool true) ∧ Below w.heap.size w w' := by
  obtain ⟨As, cs, Aw, cw, rfl, rfl⟩ := hR.form
  replace hD := Lib.hid hD
  clear hR
  unfold rfv
  go_enter Try.func24, Try.ntmps24
  go_upto_region 1 with fail
  refine abs_wp (fun Y => Below w.heap.size w Y ∧ RB Y w.heap.size (.slice As d.n cs) (.slice Aw d.m cw) (.int .i64 d.f) (.bool d.dn) (.int .i64 d.k)) ⟨bel_alloc (Below.refl _ _) _, Blk.new _ _ _⟩ ?_
  rintro Y ⟨hbY, gY⟩
  have x0 := gY.c0
  have x1 := gY.c1
  have x3 := gY.c3
  have x4 := gY.c4
  have xl := gY.lt
  have hDY := hD.out.kept hbY
  have c1 := Lib.hid (fun dd => (downX (Grow Y dd) (hDY.kept (grow_below Y dd))).mono (fun r w' ⟨h1, h2⟩ => (⟨h1, by rw [h2]; exact Below.refl _ _⟩ : _ ∧ Below (Grow Y dd).heap.size (Grow Y dd) w')))
  have c2 := Lib.hid (fun dd => (waitsX (Grow Y dd) (hDY.kept (grow_below Y dd))).mono (fun r w' ⟨h1, h2⟩ => (⟨h1, by rw [h2]; exact Below.refl _ _⟩ : _ ∧ Below (Grow Y dd).heap.size (Grow Y dd) w')))
  have c3 := Lib.hid (fun dd => (writesX (Grow Y dd) (hDY.kept (grow_below Y dd))).mono (fun r w' ⟨h1, h2⟩ => (⟨h1, by rw [h2]; exact Below.refl _ _⟩ : _ ∧ Below (Grow Y dd).heap.size (Grow Y dd) w')))
  have c4 := Lib.hid (fun dd => (blocksX (Grow Y dd) (hDY.kept (grow_below Y dd))).mono (fun r w' ⟨h1, h2⟩ => (⟨h1, by rw [h2]; exact Below.refl _ _⟩ : _ ∧ Below (Grow Y dd).heap.size (Grow Y dd) w')))
  replace hbY := Lib.hid hbY
  clear hDY gY hD
  go_upto_region 1 with fail
  first | (with_reducible refine rgrow2 (by kernel_rfl) (by kernel_rfl) ?_) | (refine rgrow (by kernel_rfl) (by kernel_rfl) ?_)
  repeat (go_big_quiet_step (((first | (go_at_call 18; exact grow_call (c1.out _)) | (go_at_call 22; exact grow_call (c2.out _)) | (go_at_call 35; exact grow_call (c3.out _)) | (go_at_call 36; exact grow_call (c4.out _))))))
  refine wpQuiet_nil ?_
  intro dr
  have hb := Lib.hid (hbY.out.trans ((grow_below Y dr).mono hbY.out.size))
  go_wp2_with fail
  go_ret
  exact ⟨rfl, hb.out⟩
end Go.Proofs.Ytnbfnlpepnbppaa
-- DkPa
namespace Go.Proofs.Ytnbfnlpepnbppaa
set_option linter.unusedVariables false
set_option linter.unusedSimpArgs false
open Go.RowKit Go.Shelf
attribute [local irreducible] bytesL

/-- a disk of N blocks behind t operations -/
structure DJ (d : DS) (N : Nat) (t : Nat) : Prop where
  n : d.n = N
  m : d.m ≤ t
  k : d.k ≤ t
  P : ∀ i, i < d.m → d.P i < N
  f1 : -1 ≤ d.f
  f2 : d.f < 9223372036854775808
theorem DJ.new (n : Nat) : DJ (DS.new n) n 0 := ⟨rfl, Nat.le_refl _, Nat.le_refl _, fun i hi => absurd hi (Nat.not_lt_zero i), by simp [DS.new], by simp [DS.new]⟩
theorem DJ.up {d : DS} {n t t' : Nat} (h : DJ d n t) (ht : t ≤ t') : DJ d n t' := ⟨h.n, Nat.le_trans h.m ht, Nat.le_trans h.k ht, h.P, h.f1, h.f2⟩
theorem DS.act_k (d : DS) : d.act.k = d.k := by
  unfold DS.act
  split
  · rfl
  · split <;> rfl
theorem DJ.act {d : DS} {n t : Nat} (h : DJ d n t) : DJ d.act n t := by
  obtain ⟨h1, h2, h3, h4, h5⟩ := d.act_fields
  refine ⟨h1.trans h.n, by rw [h3]; exact h.m, by rw [d.act_k]; exact h.k, by rw [h3, h4]; exact h.P, ?_, ?_⟩
  · have := h.f1
    unfold DS.act
    split
    · exact this
    · split
      · show -1 ≤ d.f - 1; omega
      · exact this
  · have := h.f2
    unfold DS.act
    split
    · exact this
    · split
      · show d.f - 1 < _; omega
      · exact this
theorem DJ.write {d : DS} {n t : Nat} (h : DJ d n t) (a : Int) (l : Nat) (e : Nat → Int) : DJ (d.write a l e) n (t + 1) := by
  unfold DS.write
  by_cases hw : d.wok a l
  · rw [if_pos hw]
    refine DJ.act ⟨h.n, by have := h.m; show d.m + 1 ≤ t + 1; omega, by have := h.k; show d.k + 1 ≤ t + 1; omega, fun i hi => ?_, h.f1, h.f2⟩
    have hi' : i < d.m + 1 := hi
    obtain ⟨w1, w2, w3, w4⟩ := hw
    show updN d.P d.m a.toNat i < n
    have := h.n
    unfold updN
    split
    · omega
    · exact h.P i (by omega)
  · rw [if_neg hw]; exact h.up (by omega)
theorem DJ.sync {d : DS} {n t : Nat} (h : DJ d n t) : DJ d.sync n t := by
  unfold DS.sync
  split
  · exact h
  · split
    · exact h.act
    · exact ⟨h.act.n, Nat.zero_le _, h.act.k, fun i hi => absurd hi (Nat.not_lt_zero i), h.act.f1, h.act.f2⟩
theorem DJ.fuse {d : DS} {n t : Nat} (h : DJ d n t) {z : Int} (hz : z < 9223372036854775808) : DJ (d.fuse z) n t := by
  unfold DS.fuse
  split
  · exact h
  · exact ⟨h.n, h.m, h.k, h.P, by show -1 ≤ max z (-1); omega, by show max z (-1) < _; omega⟩
theorem DJ.crash {d : DS} {n t : Nat} (h : DJ d n t) (lf lt : Nat → Int) (nl : Nat) : DJ (d.crash lf lt nl) n t := ⟨h.n, Nat.zero_le _, h.k, fun i hi => absurd hi (Nat.not_lt_zero i), by show (-1 : Int) ≤ -1; omega, by show (-1 : Int) < _; omega⟩
/-- a disk behind an operation -/
def DS.stepOp (d : DS) (o : OpV) : DS :=
  if o.d.tmod 5 = 0 then d.write o.at_ o.len o.by_ else if o.d.tmod 5 = 1 then d else if o.d.tmod 5 = 2 then d.sync else if o.d.tmod 5 = 3 then d.fuse o.at_ else d.crash o.lf o.lt o.n
theorem DJ.step {d : DS} {n t : Nat} (h : DJ d n t) {o : OpV} (ho : o.at_ < 9223372036854775808) : DJ (d.stepOp o) n (t + 1) := by
  unfold DS.stepOp
  split
  · exact h.write _ _ _
  · split
    · exact h.up (by omega)
    · split
      · exact h.sync.up (by omega)
      · split
        · exact (h.fuse ho).up (by omega)
        · exact (h.crash _ _ _).up (by omega)
/-- what of a pair of disks a step may leave -/
def StepTo (w w' : World) (lo B : Nat) (G : Nat → Prop) (sv wv : Value) (d' : DS) (sv' wv' : Value) : Prop :=
  ∃ G', PR w' lo B G' sv' wv' d' ∧ (∀ k, G' k → G k ∨ w.heap.size ≤ k) ∧ (∀ b, sv'.ownBlock = some b → sv.ownBlock = some b ∨ w.heap.size ≤ b) ∧ (∀ b, wv'.ownBlock = some b → wv.ownBlock = some b ∨ w.heap.size ≤ b) ∧ Tch G w w'
theorem DkNx.pre {w w1 w' : World} {B : Nat} {G : Nat → Prop} {d : DS} (h : DkNx w1 w' B G d) (hb : Below w.heap.size w w1) : DkNx w w' B G d := by
  obtain ⟨G', h1, h2, h3, h4⟩ := h
  have := hb.size
  exact ⟨G', h1, h2, fun k hk => (h3 k hk).imp_right (fun x => ⟨by omega, x.2⟩), (tch_of hb G).trans2 h4 (fun k _ x => x)⟩
/-- the disk's part, then the document's, then what is of no account -/
theorem stepTo_of {w w3 w4 w5 w6 : World} {lo B : Nat} {G : Nat → Prop} {sv wv sv' wv' : Value} {d d' : DS} (h : PR w lo B G sv wv d) (hlo : lo ≤ w.heap.size) (h3 : Below w.heap.size w w3) (hsz : w.heap.size + 3 ≤ w3.heap.size) (h4 : DkNx w3 w4 B G d') (h5 : RfAt w5 sv' wv' d') (hb : Below w4.heap.size w4 w5) (hs : ∀ b, sv'.ownBlock = some b → sv.ownBlock = some b ∨ w4.heap.size ≤ b) (hw : ∀ b, wv'.ownBlock = some b → wv.ownBlock = some b ∨ w4.heap.size ≤ b)
    (ht : Tch (fun k => (w.heap.size ≤ k ∧ k < w.heap.size + 3)) w5 w6) : StepTo w w6 lo B G sv wv d' sv' wv' := by
  obtain ⟨G', k1, k2, k3, k4⟩ := h4
  have hs4 := k4.size
  have hs5 := hb.size
  have hG : ∀ k, G' k → G k ∨ w.heap.size + 3 ≤ k := fun k x => (k3 k x).imp_right (fun y => by omega)
  have hGl := h.dk.lt
  have hsv : ∀ b, sv'.ownBlock = some b → sv.ownBlock = some b ∨ w.heap.size + 3 ≤ b := fun b x => (hs b x).imp_right (fun y => by omega)
  have hwv : ∀ b, wv'.ownBlock = some b → wv.ownBlock = some b ∨ w.heap.size + 3 ≤ b := fun b x => (hw b x).imp_right (fun y => by omega)
  have hn : ∀ k, (w.heap.size ≤ k ∧ k < w.heap.size + 3) → ¬ G' k := fun k hk x => by
    rcases hG k x with y | y
    · have := hGl k y; omega
    · omega
  have hlts := h.rf.safe.ltB
  have hltw := h.rf.waits.ltB
  refine ⟨G', ⟨(k1.kept hb).tch ht (fun k x y => hn k y x), fun k x => ?_, h5.tch ht (fun b x y => ?_) (fun b x y => ?_), fun b x => ?_, fun b x => ?_⟩, fun k x => (hG k x).imp_right (fun y => by omega), fun b x => (hsv b x).imp_right (fun y => by omega), fun b x => (hwv b x).imp_right (fun y => by omega), ?_⟩
  · rcases hG k x with y | y
    · exact h.gl k y
    · omega
  · rcases hsv b x with z | z
    · have := hlts b z; omega
    · omega
  · rcases hwv b x with z | z
    · have := hltw b z; omega
    · omega
  · rcases hs b x with y | y
    · have h7 := hlts b y
      refine ⟨(h.sg b y).1, fun x => ?_⟩
      rcases hG b x with z | z
      · exact (h.sg b y).2 z
      · omega
    · exact ⟨by have := h3.size; omega, fun z => by have := k1.lt b z; omega⟩
  · rcases hw b x with y | y
    · have h7 := hltw b y
      refine ⟨(h.wg b y).1, fun x => ?_⟩
      rcases hG b x with z | z
      · exact (h.wg b y).2 z
      · omega
    · exact ⟨by have := h3.size; omega, fun z => by have := k1.lt b z; omega⟩
  · exact (((tch_of h3 G).trans2 k4 (fun _ _ x => x)).bel hb).trans2 ht (fun k hk x => by omega)
theorem ss_tch {S : Nat → Prop} {w w' : World} {A : Option Addr} {n k : Nat} {f : Nat → List Value} (h : SsIs w A n k f) (ht : Tch S w w') (hS : ∀ a, A = some a → 0 < n → ¬ S a.block) : SsIs w' A n k f := fun hm => by
  obtain ⟨b, o, e, hl, hc⟩ := h hm
  refine ⟨b, o, e, Nat.lt_of_lt_of_le hl ht.size, fun i hi j v hv => ?_⟩
  have hb := hS ⟨b, o, none⟩ e hm
  exact (ht.cell (p := ⟨b, o + i * k + j, none⟩) hl hb).trans (hc i hi j v hv)
theorem w_fin1 {wc w6 W' : World} {gx cs6 : Nat} {sv wv wv2 : Value} {d2 : DS} {x0 x1 x2 x3 x4 : Value} (hb : Below wc.heap.size wc w6) (hR : RfAt w6 sv wv2 d2) (t : Tch (fun k => k = gx) w6 W') (f : RB W' gx x0 x1 x2 x3 x4) (hg : wc.heap.size ≤ gx) (hc : gx < cs6) (hs : ∀ b, sv.ownBlock = some b → b < wc.heap.size) (hw : ∀ b, wv.ownBlock = some b → b < wc.heap.size) (hw2 : ∀ b, wv2.ownBlock = some b → wv.ownBlock = some b ∨ cs6 ≤ b) :
    Below wc.heap.size wc W' ∧ RfAt W' sv wv2 d2 ∧ RB W' gx x0 x1 x2 x3 x4 ∧ ∀ b, wv2.ownBlock = some b → wv.ownBlock = some b ∨ wc.heap.size ≤ b :=
  ⟨hb.trans (t.below hb.size (fun k h1 h2 => by omega)), hR.tch t (fun b x y => by have := hs b x; omega) (fun b x y => by
    rcases hw2 b x with z | z
    · have := hw b z; omega
    · omega), f, fun b x => (hw2 b x).imp_right (fun z => by omega)⟩
theorem rsync_ex (As Aw : Option Addr) (nn mm cs cw : Nat) (d : DS) (hn0 : 0 < d.n) (hn : d.n ≤ 4096) (hm : d.m ≤ 100000) (hP : ∀ i, i < d.m → d.P i < d.n) (hf : -10 < d.f ∧ d.f < 9223372036854775808) (w : World) (h : RfAt w (.slice As nn cs) (.slice Aw mm cw) d) :
    Calls Try.prog 30 #[.agg #[.slice As nn cs, .slice Aw mm cw, .int .i64 d.f, .bool d.dn, .int .i64 d.k]] w fun r w' => ∃ A1 c1 A2 c2, r = .returned (.tuple #[.agg #[.slice A1 d.sync.n c1, .slice A2 d.sync.m c2, .int .i64 d.sync.f, .bool d.sync.dn, .int .i64 d.sync.k], .int .i64 d.serr]) ∧ RfAt w' (.slice A1 d.sync.n c1) (.slice A2 d.sync.m c2) d.sync ∧ Below w.heap.size w w' ∧ (∀ b, (Value.slice A1 d.sync.n c1).ownBlock = some b → (Value.slice As nn cs).ownBlock = some b ∨ w.heap.size ≤ b) ∧ ∀ b, (Value.slice A2 d.sync.m c2).ownBlock = some b → (Value.slice Aw mm cw).ownBlock = some b ∨ w.heap.size ≤ b := by
  refine (rsync_any _ _ d hn0 hn hm hP hf w h).mono ?_
  rintro r w' ⟨sv', wv', rfl, h1, h2, h3, h4⟩
  obtain ⟨A1, c1, A2, c2, rfl, rfl⟩ := h1.form
  exact ⟨A1, c1, A2, c2, rfl, h1, h2, h3, h4⟩
theorem rcrash_ex (As Aw : Option Addr) (nn mm cs cw : Nat) (d : DS) (A : Option Addr) (nl c : Nat) (lf lt : Nat → Int) (hlc : nl ≤ c) (hcm : c ≤ maxLen) (hn0 : 0 < d.n) (hn : d.n ≤ 4096) (hm : d.m ≤ 100000) (hP : ∀ i, i < d.m → d.P i < d.n) (w : World) (h : RfAt w (.slice As nn cs) (.slice Aw mm cw) d) (hs : SsIs w A nl 2 (fun i => [.int .i64 (lf i), .int .i64 (lt i)])) :
    Calls Try.prog 32 #[.agg #[.slice As nn cs, .slice Aw mm cw, .int .i64 d.f, .bool d.dn, .int .i64 d.k], .slice A nl c] w fun r w' => ∃ A1 c1 A2 c2, r = .returned (.agg #[.slice A1 (d.crash lf lt nl).n c1, .slice A2 (d.crash lf lt nl).m c2, .int .i64 (d.crash lf lt nl).f, .bool (d.crash lf lt nl).dn, .int .i64 (d.crash lf lt nl).k]) ∧ RfAt w' (.slice A1 (d.crash lf lt nl).n c1) (.slice A2 (d.crash lf lt nl).m c2) (d.crash lf lt nl) ∧ Below w.heap.size w w' ∧ (∀ b, (Value.slice A1 (d.crash lf lt nl).n c1).ownBlock = some b → (Value.slice As nn cs).ownBlock = some b ∨ w.heap.size ≤ b) ∧ ∀ b, (Value.slice A2 (d.crash lf lt nl).m c2).ownBlock = some b → (Value.slice Aw mm cw).ownBlock = some b ∨ w.heap.size ≤ b := by
  refine (rcrash_any _ _ d A nl c lf lt hlc hcm hn0 hn hm hP w h hs).mono ?_
  rintro r w' ⟨sv', wv', rfl, h1, h2, h3, h4⟩
  obtain ⟨A1, c1, A2, c2, rfl, rfl⟩ := h1.form
  exact ⟨A1, c1, A2, c2, rfl, h1, h2, h3, h4⟩
theorem rfuse_ex (As Aw : Option Addr) (nn mm cs cw : Nat) (d : DS) (z : Int) (w : World) (h : RfAt w (.slice As nn cs) (.slice Aw mm cw) d) :
    Calls Try.prog 31 #[.agg #[.slice As nn cs, .slice Aw mm cw, .int .i64 d.f, .bool d.dn, .int .i64 d.k], .int .i64 z] w fun r w' => ∃ A1 c1 A2 c2, r = .returned (.agg #[.slice A1 (d.fuse z).n c1, .slice A2 (d.fuse z).m c2, .int .i64 (d.fuse z).f, .bool (d.fuse z).dn, .int .i64 (d.fuse z).k]) ∧ RfAt w' (.slice A1 (d.fuse z).n c1) (.slice A2 (d.fuse z).m c2) (d.fuse z) ∧ Below w.heap.size w w' ∧ (∀ b, (Value.slice A1 (d.fuse z).n c1).ownBlock = some b → (Value.slice As nn cs).ownBlock = some b ∨ w.heap.size ≤ b) ∧ ∀ b, (Value.slice A2 (d.fuse z).m c2).ownBlock = some b → (Value.slice Aw mm cw).ownBlock = some b ∨ w.heap.size ≤ b := by
  refine (rfuse_any As Aw nn mm cs cw d z w).mono ?_
  rintro r w' ⟨rfl, hb⟩
  have e : (d.fuse z).n = d.n ∧ (d.fuse z).S = d.S ∧ (d.fuse z).m = d.m ∧ (d.fuse z).P = d.P ∧ (d.fuse z).D = d.D := by
    unfold DS.fuse
    split <;> exact ⟨rfl, rfl, rfl, rfl, rfl⟩
  have h2 : RfAt w' (.slice As nn cs) (.slice Aw mm cw) (d.fuse z) := (h.kept hb).same e.1 e.2.1 e.2.2.1 e.2.2.2.1 e.2.2.2.2
  obtain ⟨A1, c1, A2, c2, e1, e2⟩ := h2.form
  cases e1
  cases e2
  exact ⟨_, _, _, _, rfl, h2, hb, fun b => Or.inl, fun b => Or.inl⟩
end Go.Proofs.Ytnbfnlpepnbppaa
