/-
  The document's Of, walked.
-/
import Derived.Test.YtbmdnifkjcimcaaNk
namespace Go.Proofs.Ytbmdnifkjcimcaa
set_option linter.unusedVariables false
set_option linter.unusedSimpArgs false
open Go.RowKit

theorem abs_postN {P : Program} {f : Func} {Φ : Ending → World → Prop} {e : Exit} {a : Act} {W : World} (I : World → Prop) (hI : I W) (h : ∀ X, I X → bodyPost P f Φ e a X) : bodyPost P f Φ e a W := h W hI
theorem Blk.eqvN {w : World} {g : Nat} {t : TypeId} {cs cs' : Array Value} (h : Blk w g t cs) (e : cs = cs') : Blk w g t cs' := e ▸ h
theorem info_str : (Try.prog.info? 9).map (fun i => (i.zero, i.size, i.bytes)) = some (some (.string { data := #[] }), 1, 16) := by kernel_rfl
theorem info_u32 : (Try.prog.info? 62).map (fun i => (i.zero, i.size, i.bytes)) = some (some (.int .u32 0), 1, 4) := by kernel_rfl
set_option maxRecDepth 8000 in
set_option maxHeartbeats 8000000 in
theorem of_any (lf : Bool) (KA VA CA : Option Addr) (kn kc vn vc cn cc : Nat) (KL VL : Nat → Nat) (K V : Nat → Nat → Int) (C : Nat → Int) (w : World) (m1 : kn ≤ 1000000) (m2 : vn ≤ 1000000) (m3 : cn ≤ 1000000) (hK : RsIs w KA kn KL K) (hV : RsIs w VA vn VL V) (hC : SlIs w CA cn (fun j => .int .u32 (C j))) :
    Calls Try.prog 12 #[.agg #[.bool lf, .slice KA kn kc, .slice VA vn vc, .slice CA cn cc]] w fun r w' => ∃ A1 c1 A2 c2 A3 c3, r = .returned (.agg #[.bool lf, .slice A1 kn c1, .slice A2 vn c2, .slice A3 cn c3]) ∧ SlIs w' A1 kn (sV KL K) ∧ SlIs w' A2 vn (sV VL V) ∧ SlIs w' A3 cn (fun j => .int .u32 (C j)) ∧ Below w.heap.size w w' := by
  replace hK := Lib.hid hK
  replace hV := Lib.hid hV
  replace hC := Lib.hid hC
  have hb0 := Below.refl w.heap.size w
  go_enter Try.func12, Try.ntmps12
  go_upto_region 2 with fail
  replace hb0 := Lib.hid hb0
  refine abs_wp (fun Y_ => Below w.heap.size w Y_ ∧ Blk Y_ (w.heap.size) 28 #[.bool lf, .slice KA kn kc, .slice VA vn vc, .slice CA cn cc] ∧ Blk Y_ (w.heap.size + 1) 36 #[.bool false, .slice none 0 0, .slice none 0 0, .slice none 0 0] ∧ Blk Y_ (w.heap.size + 1 + 1) 36 #[.bool lf, .slice none 0 0, .slice none 0 0, .slice none 0 0]) ?_ ?_
  · have t_B := hb0.out
    refine ⟨by (repeat (first | with_reducible exact Below.refl _ _ | with_reducible assumption | (with_reducible refine bel_set ?_ (by first | exact Nat.le_refl _ | (simp; done) | (simp; omega) | omega) _) | with_reducible refine bel_grow ?_ _ | with_reducible refine Below.drew ?_ | with_reducible refine bel_alloc ?_ _ | with_reducible refine bel_eld ?_ (by assumption))), ?_, ?_, ?_⟩
    · (repeat (first | with_reducible assumption | (with_reducible refine Blk.new' ?_; first | with_reducible rfl | (simp; done)) | with_reducible refine Blk.alloc ?_ _ | with_reducible refine Blk.grow ?_ _ | with_reducible refine Blk.drew ?_ | with_reducible refine Blk.drewN ?_ _ | (with_reducible refine Blk.far ?_ (by first | (dsimp only; omega) | (simp; omega)) _) | (with_reducible apply Blk.two) | (with_reducible refine Blk.kept ?_ (by assumption)) | (with_reducible refine Blk.setRow ?_ (by first | rfl | (simp; done))) | (with_reducible refine Blk.setRow_far ?_ (by first | omega | (simp; omega)) _) | (with_reducible refine Blk.set' ?_ _ _ (by first | rfl | (simp; done)))))
    · (repeat (first | with_reducible assumption | (with_reducible refine Blk.new' ?_; first | with_reducible rfl | (simp; done)) | with_reducible refine Blk.alloc ?_ _ | with_reducible refine Blk.grow ?_ _ | with_reducible refine Blk.drew ?_ | with_reducible refine Blk.drewN ?_ _ | (with_reducible refine Blk.far ?_ (by first | (dsimp only; omega) | (simp; omega)) _) | (with_reducible apply Blk.two) | (with_reducible refine Blk.kept ?_ (by assumption)) | (with_reducible refine Blk.setRow ?_ (by first | rfl | (simp; done))) | (with_reducible refine Blk.setRow_far ?_ (by first | omega | (simp; omega)) _) | (with_reducible refine Blk.set' ?_ _ _ (by first | rfl | (simp; done)))))
    · (repeat (first | with_reducible assumption | (with_reducible refine Blk.new' ?_; first | with_reducible rfl | (simp; done)) | with_reducible refine Blk.alloc ?_ _ | with_reducible refine Blk.grow ?_ _ | with_reducible refine Blk.drew ?_ | with_reducible refine Blk.drewN ?_ _ | (with_reducible refine Blk.far ?_ (by first | (dsimp only; omega) | (simp; omega)) _) | (with_reducible apply Blk.two) | (with_reducible refine Blk.kept ?_ (by assumption)) | (with_reducible refine Blk.setRow ?_ (by first | rfl | (simp; done))) | (with_reducible refine Blk.setRow_far ?_ (by first | omega | (simp; omega)) _) | (with_reducible refine Blk.set' ?_ _ _ (by first | rfl | (simp; done)))))
  clear hb0
  rintro X ⟨hB_1, f_n, f_p, f_q⟩
  have n_0 : X.cell? ⟨w.heap.size, 0, none⟩ = some (.bool lf) := (f_n).cell 0
  have n_1 : X.cell? ⟨w.heap.size, 1, none⟩ = some (.slice KA kn kc) := (f_n).cell 1
  have n_2 : X.cell? ⟨w.heap.size, 2, none⟩ = some (.slice VA vn vc) := (f_n).cell 2
  have n_3 : X.cell? ⟨w.heap.size, 3, none⟩ = some (.slice CA cn cc) := (f_n).cell 3
  have n_f0 := (f_n).frozen 0
  have n_f1 := (f_n).frozen 1
  have n_f2 := (f_n).frozen 2
  have n_f3 := (f_n).frozen 3
  have n_l := (f_n).lt
  replace f_n := Lib.hid f_n
  have p_0 : X.cell? ⟨w.heap.size + 1, 0, none⟩ = some (.bool false) := (f_p).cell 0
  have p_1 : X.cell? ⟨w.heap.size + 1, 1, none⟩ = some (.slice none 0 0) := (f_p).cell 1
  have p_2 : X.cell? ⟨w.heap.size + 1, 2, none⟩ = some (.slice none 0 0) := (f_p).cell 2
  have p_3 : X.cell? ⟨w.heap.size + 1, 3, none⟩ = some (.slice none 0 0) := (f_p).cell 3
  have p_f0 := (f_p).frozen 0
  have p_f1 := (f_p).frozen 1
  have p_f2 := (f_p).frozen 2
  have p_f3 := (f_p).frozen 3
  have p_l := (f_p).lt
  replace f_p := Lib.hid f_p
  have q_0 : X.cell? ⟨w.heap.size + 1 + 1, 0, none⟩ = some (.bool lf) := (f_q).cell 0
  have q_1 : X.cell? ⟨w.heap.size + 1 + 1, 1, none⟩ = some (.slice none 0 0) := (f_q).cell 1
  have q_2 : X.cell? ⟨w.heap.size + 1 + 1, 2, none⟩ = some (.slice none 0 0) := (f_q).cell 2
  have q_3 : X.cell? ⟨w.heap.size + 1 + 1, 3, none⟩ = some (.slice none 0 0) := (f_q).cell 3
  have q_f0 := (f_q).frozen 0
  have q_f1 := (f_q).frozen 1
  have q_f2 := (f_q).frozen 2
  have q_f3 := (f_q).frozen 3
  have q_l := (f_q).lt
  replace f_q := Lib.hid f_q
  replace hB_1 := Lib.hid hB_1
  clear n_0 n_1 n_2 n_3 n_f0 n_f1 n_f2 n_f3 p_0 p_1 p_2 p_3 p_f0 p_f1 p_f2 p_f3 q_0 q_1 q_2 q_3 q_f0 q_f1 q_f2 q_f3
  go_wp2_with fail
  go_loopw [4] (fun i wr => ∃ (m : Nat) (v : Value), m ≤ kn ∧ i = .int .i64 m ∧ Hid (OwnV wr X.heap.size 9 v m (sV KL K)) ∧ Hid (Blk wr (w.heap.size + 1 + 1) 36 #[.bool lf, v, .slice none 0 0, .slice none 0 0]) ∧ Hid (Upd X wr (w.heap.size + 1 + 1))) (fun i _ => kn - (intOf i).toNat)
  case atStart => exact ⟨0, .slice none 0 0, by omega, rfl, OwnV.nil _ _ _ _, f_q.out, Upd.refl _ _⟩
  case round =>
    clear f_q
    obtain ⟨m, v, hm, rfl, hO, hQ, hU⟩ := hrel
    have hUX : Upd X wr (w.heap.size + 1 + 1) := hU.out
    have hbw : Below w.heap.size w wr := hB_1.out.trans (hUX.1.mono (by omega))
    have gn : Blk wr w.heap.size 28 #[.bool lf, .slice KA kn kc, .slice VA vn vc, .slice CA cn cc] := (hUX.2 w.heap.size (by omega) (by omega)).trans f_n.out
    have gp : Blk wr (w.heap.size + 1) 36 #[.bool false, .slice none 0 0, .slice none 0 0, .slice none 0 0] := (hUX.2 (w.heap.size + 1) (by omega) (by omega)).trans f_p.out
    have hszX : X.heap.size ≤ wr.heap.size := hU.out.1.size
    have hszW : w.heap.size + 1 + 1 < X.heap.size := by omega
    have x0 := (gn).cell 0
    have x1 := (gn).cell 1
    have x2 := (gn).cell 2
    have x3 := (gn).cell 3
    have xf0 := (gn).frozen 0
    have xf1 := (gn).frozen 1
    have xf2 := (gn).frozen 2
    have xf3 := (gn).frozen 3
    have xl := (gn).lt
    have z0 := (hQ.out).cell 0
    have z1 := (hQ.out).cell 1
    have z2 := (hQ.out).cell 2
    have z3 := (hQ.out).cell 3
    have zf0 := (hQ.out).frozen 0
    have zf1 := (hQ.out).frozen 1
    have zf2 := (hQ.out).frozen 2
    have zf3 := (hQ.out).frozen 3
    have zl := (hQ.out).lt
    by_cases hlt : m < kn
    · obtain ⟨b, o, B, C0, rfl, hbl, hc, _, _, s1⟩ := (hK.out.below hbw).at hlt
      have q1 := conv8 (slis_drew s1) C0
      have hsv := Lib.hid (show Value.string (strF (K m) (KL m)) = sV KL K m from rfl)
      clear s1
      generalize strF (K m) (KL m) = st at *
      generalize KL m = lm at *
      replace hbw := Lib.hid hbw
      replace hUX := Lib.hid hUX
      go_upto_region 5 with fail
      go_region_law (first
        | (refine step_appV rfl (.tmp 18) (.tmp 25) (t := 34) (e := 9) Try.underlying34 info_str rfl (by omega) rfl rfl rfl (OwnV.kept hO.out (bel_alloc (Below.drew (Below.refl _ _)) _)) ((Blk.new _ _ _).cell 0) hsv.out rfl (by omega) (Nat.le_trans hszX (bel_alloc (Below.drew (Below.refl _ _)) _).size) ?_; intro v1 w1 ho1 hb1; obtain ⟨A9, c9, rfl, _, _, _⟩ := OwnV.slis ho1; have hq1 : Blk w1 (w.heap.size + 1 + 1) 36 #[.bool lf, v, .slice none 0 0, .slice none 0 0] := Blk.lowb (Blk.alloc (Blk.drew hQ.out) _) hb1 hszW; have y2 : w1.cell? ⟨w.heap.size + 1 + 1, 1, none⟩ = some v := hq1.cell 1; have y2f := hq1.frozen 1; replace ho1 := Lib.hid ho1; replace hb1 := Lib.hid hb1; replace hq1 := Lib.hid hq1))
      all_goals (
        go_wp2_with fail
        go_roundw
        case rel =>
          have hU1 : Upd X w1 (w.heap.size + 1 + 1) := ((hU.out).low (bel_alloc (Below.drew (Below.refl wr.heap.size wr)) _) hszX (by omega)).low hb1.out (Nat.le_refl _) (Nat.le_of_lt hszW)
          exact ⟨m + 1, .slice A9 (m + 1) c9, by omega, by go_num, OwnV.far ho1.out (by dsimp only; omega) _, Blk.set' hq1.out _ _ (by simp), hU1.set _ _⟩
        case measure => simp [intOf]; omega)
    · obtain rfl : kn = m := by omega
      obtain ⟨A1, c1, rfl, s_1, d_10⟩ := hO.out.slis2
      have d_1 : ∀ b o, A1 = some ⟨b, o, none⟩ → w.heap.size + 1 + 1 < b := fun b o e => by have := d_10 b o e; omega
      clear d_10
      replace s_1 := Lib.hid s_1
      obtain ⟨Y, rfl⟩ : ∃ Y : World, Y = wr := ⟨_, rfl⟩
      have g_q := hQ
      have uXY := hU
      replace hbw := Lib.hid hbw
      go_wp2_with fail
      clear x0 x1 x2 x3 xf0 xf1 xf2 xf3 xl z0 z1 z2 z3 zf0 zf1 zf2 zf3 zl gn gp hQ hU hUX hO hbw hszX
      go_loopw [5] (fun i wr => ∃ (m : Nat) (v : Value), m ≤ vn ∧ i = .int .i64 m ∧ Hid (OwnV wr Y.heap.size 9 v m (sV VL V)) ∧ Hid (Blk wr (w.heap.size + 1 + 1) 36 #[.bool lf, .slice A1 kn c1, v, .slice none 0 0]) ∧ Hid (Upd Y wr (w.heap.size + 1 + 1))) (fun i _ => vn - (intOf i).toNat)
      case atStart => exact ⟨0, .slice none 0 0, by omega, rfl, OwnV.nil _ _ _ _, g_q.out, Upd.refl _ _⟩
      case round =>
        clear g_q
        obtain ⟨m, v, hm, rfl, hO, hQ, hU⟩ := hrel
        have hUX : Upd X wr (w.heap.size + 1 + 1) := Upd.trans uXY.out hU.out (by omega)
        have hbw : Below w.heap.size w wr := hB_1.out.trans (hUX.1.mono (by omega))
        have gn : Blk wr w.heap.size 28 #[.bool lf, .slice KA kn kc, .slice VA vn vc, .slice CA cn cc] := (hUX.2 w.heap.size (by omega) (by omega)).trans f_n.out
        have gp : Blk wr (w.heap.size + 1) 36 #[.bool false, .slice none 0 0, .slice none 0 0, .slice none 0 0] := (hUX.2 (w.heap.size + 1) (by omega) (by omega)).trans f_p.out
        have hszX : Y.heap.size ≤ wr.heap.size := hU.out.1.size
        have hszW : w.heap.size + 1 + 1 < Y.heap.size := by have := uXY.out.1.size; omega
        have x0 := (gn).cell 0
        have x1 := (gn).cell 1
        have x2 := (gn).cell 2
        have x3 := (gn).cell 3
        have xf0 := (gn).frozen 0
        have xf1 := (gn).frozen 1
        have xf2 := (gn).frozen 2
        have xf3 := (gn).frozen 3
        have xl := (gn).lt
        have z0 := (hQ.out).cell 0
        have z1 := (hQ.out).cell 1
        have z2 := (hQ.out).cell 2
        have z3 := (hQ.out).cell 3
        have zf0 := (hQ.out).frozen 0
        have zf1 := (hQ.out).frozen 1
        have zf2 := (hQ.out).frozen 2
        have zf3 := (hQ.out).frozen 3
        have zl := (hQ.out).lt
        by_cases hlt : m < vn
        · obtain ⟨b, o, B, C0, rfl, hbl, hc, _, _, s1⟩ := (hV.out.below hbw).at hlt
          have q1 := conv8 (slis_drew s1) C0
          have hsv := Lib.hid (show Value.string (strF (V m) (VL m)) = sV VL V m from rfl)
          clear s1
          generalize strF (V m) (VL m) = st at *
          generalize VL m = lm at *
          replace hbw := Lib.hid hbw
          replace hUX := Lib.hid hUX
          go_upto_region 9 with fail
          go_region_law (first
            | (refine step_appV rfl (.tmp 36) (.tmp 43) (t := 34) (e := 9) Try.underlying34 info_str rfl (by omega) rfl rfl rfl (OwnV.kept hO.out (bel_alloc (Below.drew (Below.refl _ _)) _)) ((Blk.new _ _ _).cell 0) hsv.out rfl (by omega) (Nat.le_trans hszX (bel_alloc (Below.drew (Below.refl _ _)) _).size) ?_; intro v1 w1 ho1 hb1; obtain ⟨A9, c9, rfl, _, _, _⟩ := OwnV.slis ho1; have hq1 : Blk w1 (w.heap.size + 1 + 1) 36 #[.bool lf, .slice A1 kn c1, v, .slice none 0 0] := Blk.lowb (Blk.alloc (Blk.drew hQ.out) _) hb1 hszW; have y2 : w1.cell? ⟨w.heap.size + 1 + 1, 2, none⟩ = some v := hq1.cell 2; have y2f := hq1.frozen 2; replace ho1 := Lib.hid ho1; replace hb1 := Lib.hid hb1; replace hq1 := Lib.hid hq1))
          all_goals (
            go_wp2_with fail
            go_roundw
            case rel =>
              have hU1 : Upd Y w1 (w.heap.size + 1 + 1) := ((hU.out).low (bel_alloc (Below.drew (Below.refl wr.heap.size wr)) _) hszX (by omega)).low hb1.out (Nat.le_refl _) (Nat.le_of_lt hszW)
              exact ⟨m + 1, .slice A9 (m + 1) c9, by omega, by go_num, OwnV.far ho1.out (by dsimp only; omega) _, Blk.set' hq1.out _ _ (by simp), hU1.set _ _⟩
            case measure => simp [intOf]; omega)
        · obtain rfl : vn = m := by omega
          obtain ⟨A2, c2, rfl, s_2, d_20⟩ := hO.out.slis2
          have d_2 : ∀ b o, A2 = some ⟨b, o, none⟩ → w.heap.size + 1 + 1 < b := fun b o e => by have := d_20 b o e; omega
          have s_1 := Lib.hid (s_1.out.upd (fun b o e => by have := d_1 b o e; omega) hU.out)
          clear d_20
          replace s_2 := Lib.hid s_2
          obtain ⟨Z, rfl⟩ : ∃ Z : World, Z = wr := ⟨_, rfl⟩
          have g_q := hQ
          have uYZ := hU
          replace hbw := Lib.hid hbw
          go_wp2_with fail
          clear x0 x1 x2 x3 xf0 xf1 xf2 xf3 xl z0 z1 z2 z3 zf0 zf1 zf2 zf3 zl gn gp hQ hU hUX hO hbw hszX
          go_loopw [6] (fun i wr => ∃ (m : Nat) (v : Value), m ≤ cn ∧ i = .int .i64 m ∧ Hid (OwnV wr Z.heap.size 62 v m (fun j => .int .u32 (C j))) ∧ Hid (Blk wr (w.heap.size + 1 + 1) 36 #[.bool lf, .slice A1 kn c1, .slice A2 vn c2, v]) ∧ Hid (Upd Z wr (w.heap.size + 1 + 1))) (fun i _ => cn - (intOf i).toNat)
          case atStart => exact ⟨0, .slice none 0 0, by omega, rfl, OwnV.nil _ _ _ _, g_q.out, Upd.refl _ _⟩
          case round =>
            clear g_q
            obtain ⟨m, v, hm, rfl, hO, hQ, hU⟩ := hrel
            have hUX : Upd X wr (w.heap.size + 1 + 1) := Upd.trans (Upd.trans uXY.out uYZ.out (by omega)) hU.out (by have := uXY.out.1.size; omega)
            have hbw : Below w.heap.size w wr := hB_1.out.trans (hUX.1.mono (by omega))
            have gn : Blk wr w.heap.size 28 #[.bool lf, .slice KA kn kc, .slice VA vn vc, .slice CA cn cc] := (hUX.2 w.heap.size (by omega) (by omega)).trans f_n.out
            have gp : Blk wr (w.heap.size + 1) 36 #[.bool false, .slice none 0 0, .slice none 0 0, .slice none 0 0] := (hUX.2 (w.heap.size + 1) (by omega) (by omega)).trans f_p.out
            have hszX : Z.heap.size ≤ wr.heap.size := hU.out.1.size
            have hszW : w.heap.size + 1 + 1 < Z.heap.size := by have := uXY.out.1.size; have := uYZ.out.1.size; omega
            have x0 := (gn).cell 0
            have x1 := (gn).cell 1
            have x2 := (gn).cell 2
            have x3 := (gn).cell 3
            have xf0 := (gn).frozen 0
            have xf1 := (gn).frozen 1
            have xf2 := (gn).frozen 2
            have xf3 := (gn).frozen 3
            have xl := (gn).lt
            have z0 := (hQ.out).cell 0
            have z1 := (hQ.out).cell 1
            have z2 := (hQ.out).cell 2
            have z3 := (hQ.out).cell 3
            have zf0 := (hQ.out).frozen 0
            have zf1 := (hQ.out).frozen 1
            have zf2 := (hQ.out).frozen 2
            have zf3 := (hQ.out).frozen 3
            have zl := (hQ.out).lt
            by_cases hlt : m < cn
            · obtain ⟨b, o, rfl, hbl, hcl⟩ := (hC.out.below hbw) (by omega)
              have hc : wr.cell? ⟨b, o + m, none⟩ = some (.int .u32 (C m)) := hcl m hlt
              clear hcl
              have hsv := Lib.hid (show Value.int .u32 (C m) = (fun j => Value.int .u32 (C j)) m from rfl)
              generalize C m = st at *
              replace hbw := Lib.hid hbw
              replace hUX := Lib.hid hUX
              go_upto_region 13 with fail
              go_region_law (first
                | (refine step_appV rfl (.tmp 54) (.tmp 60) (t := 26) (e := 62) Try.underlying26 info_u32 rfl (by omega) rfl rfl rfl (OwnV.kept hO.out (bel_alloc (Below.drew (Below.refl _ _)) _)) ((Blk.new _ _ _).cell 0) hsv.out rfl (by omega) (Nat.le_trans hszX (bel_alloc (Below.drew (Below.refl _ _)) _).size) ?_; intro v1 w1 ho1 hb1; obtain ⟨A9, c9, rfl, _, _, _⟩ := OwnV.slis ho1; have hq1 : Blk w1 (w.heap.size + 1 + 1) 36 #[.bool lf, .slice A1 kn c1, .slice A2 vn c2, v] := Blk.lowb (Blk.alloc (Blk.drew hQ.out) _) hb1 hszW; have y2 : w1.cell? ⟨w.heap.size + 1 + 1, 3, none⟩ = some v := hq1.cell 3; have y2f := hq1.frozen 3; replace ho1 := Lib.hid ho1; replace hb1 := Lib.hid hb1; replace hq1 := Lib.hid hq1))
              all_goals (
                go_wp2_with fail
                go_roundw
                case rel =>
                  have hU1 : Upd Z w1 (w.heap.size + 1 + 1) := ((hU.out).low (bel_alloc (Below.drew (Below.refl wr.heap.size wr)) _) hszX (by omega)).low hb1.out (Nat.le_refl _) (Nat.le_of_lt hszW)
                  exact ⟨m + 1, .slice A9 (m + 1) c9, by omega, by go_num, OwnV.far ho1.out (by dsimp only; omega) _, Blk.set' hq1.out _ _ (by simp), hU1.set _ _⟩
                case measure => simp [intOf]; omega)
            · obtain rfl : cn = m := by omega
              obtain ⟨A3, c3, rfl, s_3, d_30⟩ := hO.out.slis2
              have d_3 : ∀ b o, A3 = some ⟨b, o, none⟩ → w.heap.size + 1 + 1 < b := fun b o e => by have := d_30 b o e; omega
              have s_1 := Lib.hid (s_1.out.upd (fun b o e => by have := d_1 b o e; omega) hU.out)
              have s_2 := Lib.hid (s_2.out.upd (fun b o e => by have := d_2 b o e; omega) hU.out)
              clear d_30
              replace s_3 := Lib.hid s_3
              replace hbw := Lib.hid hbw
              have y0 := (gp).cell 0
              have y1 := (gp).cell 1
              have y2 := (gp).cell 2
              have y3 := (gp).cell 3
              have yf0 := (gp).frozen 0
              have yf1 := (gp).frozen 1
              have yf2 := (gp).frozen 2
              have yf3 := (gp).frozen 3
              have yl := (gp).lt
              replace gp := Lib.hid gp
              go_wp2_with fail
              refine abs_postN (fun Y_ => Below w.heap.size w Y_ ∧ Blk Y_ (w.heap.size + 1) 36 #[.bool lf, .slice A1 kn c1, .slice A2 vn c2, .slice A3 cn c3] ∧ SlIs Y_ A1 kn (sV KL K) ∧ SlIs Y_ A2 vn (sV VL V) ∧ SlIs Y_ A3 cn (fun j => .int .u32 (C j))) ?_ ?_
              · have t_ := hbw.out
                refine ⟨by (repeat (first | with_reducible exact Below.refl _ _ | with_reducible assumption | (with_reducible refine bel_set ?_ (by first | exact Nat.le_refl _ | (simp; done) | (simp; omega) | omega) _) | with_reducible refine bel_grow ?_ _ | with_reducible refine Below.drew ?_ | with_reducible refine below_drewN ?_ _ | with_reducible refine bel_alloc ?_ _ | with_reducible refine bel_trans ?_ (by assumption))), Blk.eqvN ((((gp.out.set_ 0 _).set_ 1 _).set_ 2 _).set_ 3 _) (by simp), ?_, ?_, ?_⟩
                · exact (((s_1.out.far (fun b o e => by have := d_1 b o e; dsimp only; omega) _).far (fun b o e => by have := d_1 b o e; dsimp only; omega) _).far (fun b o e => by have := d_1 b o e; dsimp only; omega) _).far (fun b o e => by have := d_1 b o e; dsimp only; omega) _
                · exact (((s_2.out.far (fun b o e => by have := d_2 b o e; dsimp only; omega) _).far (fun b o e => by have := d_2 b o e; dsimp only; omega) _).far (fun b o e => by have := d_2 b o e; dsimp only; omega) _).far (fun b o e => by have := d_2 b o e; dsimp only; omega) _
                · exact (((s_3.out.far (fun b o e => by have := d_3 b o e; dsimp only; omega) _).far (fun b o e => by have := d_3 b o e; dsimp only; omega) _).far (fun b o e => by have := d_3 b o e; dsimp only; omega) _).far (fun b o e => by have := d_3 b o e; dsimp only; omega) _
              rintro Y_ ⟨bZ, gP, r1, r2, r3⟩
              have j0 := (gP).cell 0
              have j1 := (gP).cell 1
              have j2 := (gP).cell 2
              have j3 := (gP).cell 3
              have jf0 := (gP).frozen 0
              have jf1 := (gP).frozen 1
              have jf2 := (gP).frozen 2
              have jf3 := (gP).frozen 3
              have jl := (gP).lt
              refine bodyPost_ret (v := .agg #[.bool lf, .slice A1 kn c1, .slice A2 vn c2, .slice A3 cn c3]) (by simp [results, Try.results12, go_sem, j0, j1, j2, j3, jl]) rfl ⟨A1, c1, A2, c2, A3, c3, rfl, r1, r2, r3, bZ⟩
end Go.Proofs.Ytbmdnifkjcimcaa
