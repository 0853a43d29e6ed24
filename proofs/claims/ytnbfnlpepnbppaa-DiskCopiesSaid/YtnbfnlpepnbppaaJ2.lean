/-
  Joined: DkX DkY DkZ.
-/
import Derived.Test.YtnbfnlpepnbppaaJ3
import Derived.Test.YtnbfnlpepnbppaaDkP
-- DkX
namespace Go.Proofs.Ytnbfnlpepnbppaa
set_option linter.unusedVariables false
set_option linter.unusedSimpArgs false
open Go.RowKit Go.Shelf
attribute [local irreducible] bytesL

set_option maxHeartbeats 2000000 in
theorem rnew_bad (z : Int) (hz : z < 8 ∨ 4096 < z) (w : World) : Calls Try.prog 10 #[.int .i64 z] w fun r w' => ∃ v, r = .returned (.tuple #[v, .int .i64 1]) ∧ Below w.heap.size w w' := by
  by_cases h8 : z < 8
  · clear hz
    go_enter Try.func10, Try.ntmps10
    go_wp2_with fail
    exact bodyPost_ret (v := .tuple #[.agg #[.slice none 0 0, .slice none 0 0, .int .i64 0, .bool false, .int .i64 0], .int .i64 1]) (by simp [results, Try.results10, go_sem]) rfl (by first | exact ⟨_, rfl, by (repeat (first | exact Below.refl _ _ | assumption | refine below_drewN ?_ _ | refine bel_grow ?_ _ | refine Below.drew ?_ | refine bel_alloc ?_ _ | refine bel_set ?_ (by first | exact Nat.le_refl _ | (simp; done) | (simp; omega) | omega) _ | refine bel_trans ?_ (by assumption)))⟩ | exact ⟨⟨_, rfl⟩, by (repeat (first | exact Below.refl _ _ | assumption | refine below_drewN ?_ _ | refine bel_grow ?_ _ | refine Below.drew ?_ | refine bel_alloc ?_ _ | refine bel_set ?_ (by first | exact Nat.le_refl _ | (simp; done) | (simp; omega) | omega) _ | refine bel_trans ?_ (by assumption)))⟩)
  · have h9 : 4096 < z := by omega
    clear hz
    go_enter Try.func10, Try.ntmps10
    go_wp2_with fail
    exact bodyPost_ret (v := .tuple #[.agg #[.slice none 0 0, .slice none 0 0, .int .i64 0, .bool false, .int .i64 0], .int .i64 1]) (by simp [results, Try.results10, go_sem]) rfl (by first | exact ⟨_, rfl, by (repeat (first | exact Below.refl _ _ | assumption | refine below_drewN ?_ _ | refine bel_grow ?_ _ | refine Below.drew ?_ | refine bel_alloc ?_ _ | refine bel_set ?_ (by first | exact Nat.le_refl _ | (simp; done) | (simp; omega) | omega) _ | refine bel_trans ?_ (by assumption)))⟩ | exact ⟨⟨_, rfl⟩, by (repeat (first | exact Below.refl _ _ | assumption | refine below_drewN ?_ _ | refine bel_grow ?_ _ | refine Below.drew ?_ | refine bel_alloc ?_ _ | refine bel_set ?_ (by first | exact Nat.le_refl _ | (simp; done) | (simp; omega) | omega) _ | refine bel_trans ?_ (by assumption)))⟩)
section
attribute [local go_sem ↓] load_R store_R
set_option maxRecDepth 8000 in
set_option maxHeartbeats 4000000 in
theorem rnew_ok (n : Nat) (h8 : 8 ≤ n) (h9 : n ≤ 4096) (w : World) : Calls Try.prog 10 #[.int .i64 n] w fun r w' => ∃ sv wv, r = .returned (.tuple #[rfv sv wv (DS.new n), .int .i64 0]) ∧ RfAt w' sv wv (DS.new n) ∧ Below w.heap.size w w' ∧ (∀ b, sv.ownBlock = some b → w.heap.size ≤ b) ∧ ∀ b, wv.ownBlock = some b → w.heap.size ≤ b := by
  have hmk := run_mkB
  go_enter Try.func10, Try.ntmps10
  go_upto_region 4 with fail
  refine abs_wp (fun X => Below w.heap.size w X ∧ RB X w.heap.size (.slice none 0 0) (.slice none 0 0) (.int .i64 0) (.bool false) (.int .i64 0) ∧ RowB X (w.heap.size + 1) (fun _ => 0) ∧ X.heap.size = w.heap.size + 2) ⟨by (repeat (first | exact Below.refl _ _ | assumption | refine below_drewN ?_ _ | refine bel_grow ?_ _ | refine Below.drew ?_ | refine bel_alloc ?_ _ | refine bel_set ?_ (by first | exact Nat.le_refl _ | (simp; done) | (simp; omega) | omega) _ | refine bel_trans ?_ (by assumption))), (Blk.new _ _ _).alloc _, Blk.new' (by simp), by simp⟩ ?_
  rintro X ⟨hbX, rX, bX, hszX⟩
  have gX0 : Blk (X.alloc (.cells #[.slice none 0 0, .slice none 0 0, .int .i64 0, .bool false, .int .i64 0] 31)) X.heap.size 31 #[.slice none 0 0, .slice none 0 0, .int .i64 0, .bool false, .int .i64 0] := Blk.new _ _ _
  obtain ⟨st1, g1, t1⟩ := RB.st (a' := .slice none 0 0) (b' := .slice none 0 0) (c' := .int .i64 (-1)) (d' := .bool false) (e' := .int .i64 0) gX0 rfl rfl rfl rfl rfl
  replace hszX := Lib.hid hszX
  clear hmk
  go_upto_region 5 with fail
  refine abs_wp (fun Y => Below X.heap.size X Y ∧ RB Y X.heap.size (.slice none 0 0) (.slice none 0 0) (.int .i64 (-1)) (.bool false) (.int .i64 0)) ⟨bel_alloc (Below.refl _ _) _, Blk.new _ _ _⟩ ?_
  clear gX0 st1 g1 t1
  rintro Y ⟨hbY, gY⟩
  have hb0 := Lib.hid (hbX.trans (hbY.mono hbX.size))
  have r0 := Lib.hid (rX.kept hbY)
  have b0 := Lib.hid (bX.kept hbY)
  have g0 := Lib.hid gY
  have hgl := gY.lt
  obtain ⟨g, hg⟩ : ∃ g, g = X.heap.size := ⟨_, rfl⟩
  have hgw : g = w.heap.size + 2 := hg.trans hszX.out
  rw [← hg] at g0 hgl
  rw [← hg]
  have hgw' := Lib.hid hgw
  clear hbX rX bX hszX hbY gY hg hgw
  obtain ⟨Z, hZ⟩ : ∃ Z, Z = strF (fun _ => 0) 512 := ⟨_, rfl⟩
  replace hZ := Lib.hid hZ
  go_wp2_with fail
  go_loopw [6] (fun i wr => ∃ (j : Nat) (A : Option Addr) (c : Nat), j ≤ n ∧ i = .int .i64 j ∧ Hid (RB wr g (.slice A j c) (.slice none 0 0) (.int .i64 (-1)) (.bool false) (.int .i64 0)) ∧ Hid (OwnS wr 0 9 1 (.slice A j c) j (fun _ => [.string Z])) ∧ Hid (∀ b, (Value.slice A j c).ownBlock = some b → g < b) ∧ Hid (RB wr w.heap.size (.slice none 0 0) (.slice none 0 0) (.int .i64 0) (.bool false) (.int .i64 0)) ∧ Hid (RowB wr (w.heap.size + 1) (fun _ => 0)) ∧ Hid (Below w.heap.size w wr)) (fun i _ => n - (intOf i).toNat)
  case atStart => exact ⟨0, none, 0, by omega, rfl, g0, Lib.hid (OwnS.nil _ _ _ _ _), Lib.hid (fun b hb => by simp [Value.ownBlock] at hb), r0, b0, hb0⟩
  case round =>
    clear r0 b0 g0 hb0 hgl
    obtain ⟨j, A, c, hj, rfl, hG, hO, hA, hR, hB, hb⟩ := hrel
    have lg := hG.out.lt
    by_cases hlt : j < n
    · have x0 := hG.out.c0
      have kc : (convert 39 9 (.slice (some ⟨w.heap.size + 1, 0, none⟩) 512 512)).run Try.prog wr = .ok (.string Z) wr := by rw [hZ.out]; exact convB hB.out.slis 512
      obtain ⟨v4, w4, happ, ho4, ht4, hob4⟩ := run_app_one (g := wr.heap.size) (c := 1) (t0 := 9) 28 Try.underlying28 info_St rfl (by omega) (by omega) (hO.out.kept (bel_alloc (Below.refl _ _) (.cells #[.string Z] 9))) rfl (Blk.new _ _ _) (fun u hu => by rw [List.mem_singleton] at hu; subst hu; rfl) (by omega)
      obtain ⟨A4, c4, rfl⟩ := ho4.form
      have hs4 := ht4.size
      simp at hs4
      have hA4 : ∀ b, (Value.slice A4 (j + 1) c4).ownBlock = some b → g < b := fun b hb => by
        rcases hob4 with q | q
        · rw [q] at hb; exact hA.out b hb
        · rw [q] at hb; cases hb; simp; omega
      have htw : Tch (fun k => (Value.slice A j c).ownBlock = some k) wr w4 := (tch_of (bel_alloc (Below.refl _ _) _) _).trans ht4
      have hG4 := hG.out.tch htw (fun x => absurd (hA.out _ x) (Nat.lt_irrefl _))
      have hlr := hgw'.out
      have hR4 := hR.out.tch htw (fun x => by have := hA.out _ x; omega)
      have hB4 := hB.out.tch htw (fun x => by have := hA.out _ x; omega)
      have hb4 : Below w.heap.size w w4 := hb.out.trans (htw.below hb.out.size (fun k h1 h2 => by have := hA.out _ h2; omega))
      have y0 := hG4.c0
      have f0 := hG4.fr 0
      have ly := hG4.lt
      have tS := (Tch.refl (fun k => k = g) w4).set (p := ⟨g, 0, none⟩) (fun _ => rfl) (.slice A4 (j + 1) c4)
      have hfin := Lib.hid (And.intro (hG4.s0 (.slice A4 (j + 1) c4)) (And.intro (ho4.tch tS (fun b hb h2 => by have := hA4 b hb; omega)) (And.intro (hR4.tch tS (by omega)) (And.intro (hB4.tch tS (by omega)) (hb4.trans (tS.below hb4.size (fun k h1 h2 => by omega)))))))
      replace hA4 := Lib.hid hA4
      clear hG hO hA hR hB hb ho4 ht4 hob4 htw hG4 hR4 hB4 hb4 tS hlr
      go_wp2_with (at_builtin; refine wpList_append_at _ rfl _ _ 28 rfl _ _ rfl rfl happ ?_)
      go_roundw
      case rel => exact ⟨j + 1, A4, c4, by omega, by go_num, Lib.hid hfin.out.1, Lib.hid hfin.out.2.1, hA4, Lib.hid hfin.out.2.2.1, Lib.hid hfin.out.2.2.2.1, Lib.hid hfin.out.2.2.2.2⟩
      case measure => simp [intOf]; omega
    · obtain rfl : n = j := by omega
      have lY := hG.out.ld
      obtain ⟨stY, rY, tY2⟩ := hR.out.st (a' := .slice A n c) (b' := .slice none 0 0) (c' := .int .i64 (-1)) (d' := .bool false) (e' := .int .i64 0) rfl rfl rfl rfl rfl
      have q0 := rY.c0
      have q1 := rY.c1
      have q2 := rY.c2
      have q3 := rY.c3
      have q4 := rY.c4
      have hlr := hgw'.out
      have hfin : Hid (RfAt (wr.setRow w.heap.size #[.slice A n c, .slice none 0 0, .int .i64 (-1), .bool false, .int .i64 0]) (.slice A n c) (.slice none 0 0) (DS.new n)) := Lib.hid ⟨by
        have := hO.out.tch tY2 (fun b hb h2 => by have := hA.out b hb; omega)
        rw [hZ.out] at this
        exact this, OwnS.nil _ _ _ _ _⟩
      have hbf := Lib.hid (hb.out.trans (tY2.below hb.out.size (fun k h1 h2 => by subst h2; exact absurd h1 (Nat.lt_irrefl _))))
      replace hA := Lib.hid (fun (b : Nat) (x : (Value.slice A n c).ownBlock = some b) => show w.heap.size ≤ b by have := hA.out b x; omega)
      clear hG hO hR hB hb tY2 rY hlr hgw' lg
      go_wp2_with fail
      exact bodyPost_ret (v := .tuple #[.agg #[.slice A n c, .slice none 0 0, .int .i64 (-1), .bool false, .int .i64 0], .int .i64 0]) (by simp [results, Try.results10, go_sem, q0, q1, q2, q3, q4]) rfl ⟨_, _, rfl, hfin.out, hbf.out, hA.out, fun b hb => by simp [Value.ownBlock] at hb⟩
end
end Go.Proofs.Ytnbfnlpepnbppaa
-- DkY
namespace Go.Proofs.Ytnbfnlpepnbppaa
set_option linter.unusedVariables false
set_option linter.unusedSimpArgs false
open Go.RowKit Go.Shelf
attribute [local irreducible] bytesL

theorem convNil (w : World) (c : Nat) : (convert 39 9 (.slice none 0 c)).run Try.prog w = .ok (.string { data := #[] }) w := by
  have h := convB (w := w) (A := none) (n := 0) (d := fun _ => 0) SlIs.nil c
  exact h
section
attribute [local go_sem ↓] load_R store_R
set_option maxRecDepth 8000 in
set_option maxHeartbeats 4000000 in
theorem same_any (B : Nat) (X : Nat → Prop) (sv wv : Value) (d : DS) (hn : d.n ≤ 4096) (hm : d.m ≤ 100000) (w : World) (hD : DkX w B X d) (hR : RfAt w sv wv d) :
    Calls Try.prog 15 #[.pointer (some ⟨B, 0, none⟩), rfv sv wv d] w fun r w' => r = .returned (.bool true) ∧ Below w.heap.size w w' := by
  obtain ⟨As, cs, Aw, cw, rfl, rfl⟩ := hR.form
  replace hD := Lib.hid hD
  replace hR := Lib.hid hR
  unfold rfv
  go_enter Try.func15, Try.ntmps15
  go_upto_region 1 with fail
  refine abs_wp (fun X => Below w.heap.size w X ∧ RB X w.heap.size (.slice As d.n cs) (.slice Aw d.m cw) (.int .i64 d.f) (.bool d.dn) (.int .i64 d.k)) ⟨bel_alloc (Below.refl _ _) _, Blk.new _ _ _⟩ ?_
  rintro X0 ⟨hbX, gX⟩
  replace hD := Lib.hid (hD.out.kept hbX)
  replace hR := Lib.hid (hR.out.kept hbX)
  replace hbX := Lib.hid hbX
  replace gX := Lib.hid gX
  go_wp2_with fail
  go_loopw [5] (fun i wr => ∃ (j : Nat), j ≤ d.n + 2 ∧ i = .int .i64 ((j : Int) - 1) ∧ Hid (RB wr w.heap.size (.slice As d.n cs) (.slice Aw d.m cw) (.int .i64 d.f) (.bool d.dn) (.int .i64 d.k)) ∧ Hid (DkX wr B X d) ∧ Hid (RfAt wr (.slice As d.n cs) (.slice Aw d.m cw) d) ∧ Hid (Below w.heap.size w wr)) (fun i _ => ((d.n : Int) + 1 - intOf i).toNat)
  case atStart => exact ⟨0, by omega, rfl, gX, hD, hR, hbX⟩
  case round =>
    clear gX hD hR hbX
    obtain ⟨j, hj, rfl, hG, hD, hR, hb⟩ := hrel
    have x0 := hG.out.c0
    by_cases hlt : j < d.n + 2
    · have cR := Lib.hid (readX (d := d) ((j : Int) - 1) hn hm wr hD.out)
      obtain ⟨z, hz⟩ : ∃ z, z = (j : Int) - 1 := ⟨_, rfl⟩
      rw [← hz] at cR
      rw [← hz]
      have hz1 : z ≤ d.n := by omega
      have hz2 : -1 ≤ z := by omega
      have hzj := Lib.hid hz
      clear hz
      clear hD
      go_wp2_with fail
      refine cR.out.mono ?_
      rintro e4 w4 ⟨v4, rfl, hv4, ho4, hD4, hb4⟩
      have hf4 : ∃ A4 c4 n4, v4 = .slice A4 n4 c4 ∧ Hid (∀ W, Below w4.heap.size w4 W → (convert 39 9 (.slice A4 n4 c4)).run Try.prog W = .ok (.string (d.rstr z)) W) := by
        by_cases h0 : d.rerr z = 0
        · obtain ⟨A4, c4, e, _, _, s4⟩ := owB_slis (ho4 h0)
          refine ⟨A4, c4, 512, e, Lib.hid (fun W hW => ?_)⟩
          have := convB (slis_below s4 hW) c4
          unfold DS.rstr
          rw [if_pos h0]
          exact this
        · refine ⟨none, 0, 0, hv4 h0, Lib.hid (fun W hW => ?_)⟩
          unfold DS.rstr
          rw [if_neg h0]
          exact convNil W 0
      obtain ⟨A4, c4, n4, rfl, hcv⟩ := hf4
      have hG4 := Lib.hid (hG.out.kept hb4)
      have l4 := hG4.out.ld
      have cQ := Lib.hid (rread_any (.slice As d.n cs) (.slice Aw d.m cw) d z hn hm w4 (hR.out.kept hb4))
      have hR4 := Lib.hid (hR.out.kept hb4)
      have hB4 := Lib.hid (bel_eld hb.out hb4)
      replace hD4 := Lib.hid hD4
      unfold rfv at cQ
      obtain ⟨er, her⟩ : ∃ er, er = d.rerr z := ⟨_, rfl⟩
      rw [← her] at cQ ⊢
      clear cR hv4 ho4 hG hR hb hb4 x0 her
      go_wp2_with fail
      refine cQ.out.mono ?_
      rintro e5 w5 ⟨rfl, hb5⟩
      have k5 := hcv.out w5 hb5
      have hG5 := Lib.hid (hG4.out.kept hb5)
      have hR5 := Lib.hid (hR4.out.kept hb5)
      have hD5 := Lib.hid (hD4.out.kept hb5)
      have hB5 := Lib.hid (bel_eld hB4.out hb5)
      clear hG4 hR4 hD4 hB4 hb5 cQ hcv l4
      go_wp2_with fail
      go_roundw
      case rel => exact ⟨j + 1, by omega, by have := hzj.out; rw [this]; congr 1; push_cast; omega, hG5, hD5, hR5, hB5⟩
      case measure =>
        have := hzj.out
        simp [intOf]
        omega
    · obtain rfl : j = d.n + 2 := by omega
      go_wp2_with fail
      go_ret
      exact ⟨rfl, hb.out⟩
end
end Go.Proofs.Ytnbfnlpepnbppaa
-- DkZ
namespace Go.Proofs.Ytnbfnlpepnbppaa
set_option linter.unusedVariables false
set_option linter.unusedSimpArgs false
open Go.RowKit Go.Shelf
attribute [local irreducible] bytesL

/-- a disk (its blocks G) and the document's (its rows sv, wv), all from lo on, and apart -/
structure PR (w : World) (lo B : Nat) (G : Nat → Prop) (sv wv : Value) (d : DS) : Prop where
  dk : DkIs w B G d
  gl : ∀ k, G k → lo ≤ k
  rf : RfAt w sv wv d
  sg : ∀ b, sv.ownBlock = some b → lo ≤ b ∧ ¬ G b
  wg : ∀ b, wv.ownBlock = some b → lo ≤ b ∧ ¬ G b
section
variable {w w' : World} {lo B : Nat} {G : Nat → Prop} {sv wv : Value} {d : DS}
theorem PR.tch {Q : Nat → Prop} (h : PR w lo B G sv wv d) (ht : Tch Q w w') (hg : ∀ k, G k → ¬ Q k) (hs : ∀ b, sv.ownBlock = some b → ¬ Q b) (hw : ∀ b, wv.ownBlock = some b → ¬ Q b) : PR w' lo B G sv wv d :=
  ⟨h.dk.tch ht hg, h.gl, h.rf.tch ht hs hw, h.sg, h.wg⟩
theorem PR.kept (h : PR w lo B G sv wv d) (hb : Below w.heap.size w w') : PR w' lo B G sv wv d := ⟨h.dk.kept hb, h.gl, h.rf.kept hb, h.sg, h.wg⟩
theorem PR.x (h : PR w lo B G sv wv d) : DkX w B G d := ⟨G, h.dk, fun _ => id⟩
/-- an operation on the disk, then on the document's -/
theorem PR.step {w4 w5 : World} {sv' wv' : Value} {d' : DS} (h : PR w lo B G sv wv d) (hlo : lo ≤ w.heap.size) (h4 : DkNx w w4 B G d') (h5 : RfAt w5 sv' wv' d') (hb : Below w4.heap.size w4 w5) (hs : ∀ b, sv'.ownBlock = some b → sv.ownBlock = some b ∨ w4.heap.size ≤ b) (hw : ∀ b, wv'.ownBlock = some b → wv.ownBlock = some b ∨ w4.heap.size ≤ b) :
    ∃ G', PR w5 lo B G' sv' wv' d' ∧ (∀ k, G' k → G k ∨ (w.heap.size ≤ k ∧ k < w4.heap.size)) ∧ Tch G w w5 := by
  obtain ⟨G', k1, k2, k3, k4⟩ := h4
  have ha : ∀ b, (lo ≤ b ∧ ¬ G b ∧ b < w.heap.size) → lo ≤ b ∧ ¬ G' b := fun b ⟨q1, q2, q3⟩ => ⟨q1, fun x => by
    rcases k3 b x with y | y
    · exact q2 y
    · omega⟩
  have hsz := k4.size
  refine ⟨G', ⟨k1.kept hb, fun k x => ?_, h5, fun b x => ?_, fun b x => ?_⟩, k3, k4.bel hb⟩
  · rcases k3 k x with y | y
    · exact h.gl k y
    · omega
  · rcases hs b x with y | y
    · exact ha b ⟨(h.sg b y).1, (h.sg b y).2, h.rf.safe.ltB b y⟩
    · exact ⟨by omega, fun z => by have := k1.lt b z; omega⟩
  · rcases hw b x with y | y
    · exact ha b ⟨(h.wg b y).1, (h.wg b y).2, h.rf.waits.ltB b y⟩
    · exact ⟨by omega, fun z => by have := k1.lt b z; omega⟩
end
/-- a disk, the document's, and the variable that holds it -/
structure OJ (w wr : World) (B bx : Nat) (G : Nat → Prop) (sv wv : Value) (d : DS) : Prop where
  p : PR wr w.heap.size B G sv wv d
  b : RB wr bx sv wv (.int .i64 d.f) (.bool d.dn) (.int .i64 d.k)
  bg : ¬ G bx
  sb : ∀ b, sv.ownBlock = some b → b ≠ bx
  wb : ∀ b, wv.ownBlock = some b → b ≠ bx
  bl : Below w.heap.size w wr
  lb : w.heap.size ≤ bx
section
variable {w wr w' : World} {B bx : Nat} {G : Nat → Prop} {sv wv : Value} {d : DS}
theorem OJ.tch {Q : Nat → Prop} (h : OJ w wr B bx G sv wv d) (ht : Tch Q wr w') (hl : ∀ k, Q k → w.heap.size ≤ k) (hg : ∀ k, G k → ¬ Q k) (hs : ∀ b, sv.ownBlock = some b → ¬ Q b) (hw : ∀ b, wv.ownBlock = some b → ¬ Q b) (hx : ¬ Q bx) : OJ w w' B bx G sv wv d :=
  ⟨h.p.tch ht hg hs hw, h.b.tch ht hx, h.bg, h.sb, h.wb, h.bl.trans (ht.below h.bl.size (fun k h1 h2 => absurd (hl k h2) (Nat.not_le.2 h1))), h.lb⟩
theorem OJ.kept (h : OJ w wr B bx G sv wv d) (hb : Below wr.heap.size wr w') : OJ w w' B bx G sv wv d :=
  ⟨h.p.kept hb, h.b.kept hb, h.bg, h.sb, h.wb, bel_eld h.bl hb, h.lb⟩
/-- an operation on the disk, then on the document's, then the variable turned -/
theorem OJ.step {w4 w5 w6 : World} {sv' wv' : Value} {d' : DS} (h : OJ w wr B bx G sv wv d) (h4 : DkNx wr w4 B G d') (h5 : RfAt w5 sv' wv' d') (hb : Below w4.heap.size w4 w5) (hs : ∀ b, sv'.ownBlock = some b → sv.ownBlock = some b ∨ w4.heap.size ≤ b) (hw : ∀ b, wv'.ownBlock = some b → wv.ownBlock = some b ∨ w4.heap.size ≤ b)
    (ht : Tch (fun k => k = bx) w5 w6) (hx : RB w6 bx sv' wv' (.int .i64 d'.f) (.bool d'.dn) (.int .i64 d'.k)) :
    ∃ G', OJ w w6 B bx G' sv' wv' d' ∧ (∀ g, w.heap.size ≤ g → g < wr.heap.size → ¬ G g → (∀ b, sv.ownBlock = some b → b ≠ g) → (∀ b, wv.ownBlock = some b → b ≠ g) → ¬ G' g ∧ (∀ b, sv'.ownBlock = some b → b ≠ g) ∧ ∀ b, wv'.ownBlock = some b → b ≠ g) ∧ Tch (fun k => G k ∨ k = bx) wr w6 := by
  obtain ⟨G', q1, q2, q3⟩ := h.p.step h.bl.size h4 h5 hb hs hw
  have hsz4 : wr.heap.size ≤ w4.heap.size := by obtain ⟨_, _, _, _, k4⟩ := h4; exact k4.size
  have hlx := h.b.lt
  have hgx : ¬ G' bx := fun x => by
    rcases q2 bx x with y | y
    · exact h.bg y
    · omega
  have hsx : ∀ b, sv'.ownBlock = some b → b ≠ bx := fun b x => by
    rcases hs b x with y | y
    · exact h.sb b y
    · omega
  have hwx : ∀ b, wv'.ownBlock = some b → b ≠ bx := fun b x => by
    rcases hw b x with y | y
    · exact h.wb b y
    · omega
  have hT : Tch (fun k => G k ∨ k = bx) wr w6 := (q3.mono (fun k _ x => Or.inl x)).trans (ht.mono (fun k _ x => Or.inr x))
  refine ⟨G', ⟨q1.tch ht (fun k x y => hgx (y ▸ x)) hsx hwx, hx, hgx, hsx, hwx, h.bl.trans (hT.below h.bl.size (fun k h1 h2 => ?_)), h.lb⟩, fun g g0 g1 g2 g3 g4 => ⟨fun x => ?_, fun b x => ?_, fun b x => ?_⟩, hT⟩
  · rcases h2 with y | y
    · exact absurd (h.p.gl k y) (Nat.not_le.2 h1)
    · have := h.lb; omega
  · rcases q2 g x with y | y
    · exact g2 y
    · omega
  · rcases hs b x with y | y
    · exact g3 b y
    · omega
  · rcases hw b x with y | y
    · exact g4 b y
    · omega
end
/-- a block whose first n cells are bytes -/
def U8B (w : World) (g : Nat) (n : Nat) : Prop := ∃ arr : Array Value, Blk w g 5 arr ∧ ∀ i, i < n → ∃ x, arr[i]? = some (.int .u8 x)
section
variable {w w' : World} {g n : Nat}
theorem U8B.cell (h : U8B w g n) {i : Nat} (hi : i < n) : ∃ x, w.cell? ⟨g, i, none⟩ = some (.int .u8 x) := by
  obtain ⟨arr, hb, hc⟩ := h
  obtain ⟨x, hx⟩ := hc i hi
  exact ⟨x, by rw [Blk.cell hb i]; exact hx⟩
theorem U8B.frozen (h : U8B w g n) (i : Nat) : w.frozen? ⟨g, i, none⟩ = false := by
  obtain ⟨arr, hb, hc⟩ := h
  exact Blk.frozen hb i
theorem U8B.lt (h : U8B w g n) : g < w.heap.size := by
  obtain ⟨arr, hb, hc⟩ := h
  exact hb.lt
theorem U8B.set (h : U8B w g n) (i : Nat) (x : Int) : U8B (w.setCell ⟨g, i, none⟩ (.int .u8 x)) g n := by
  obtain ⟨arr, hb, hc⟩ := h
  refine ⟨_, Blk.set' hb i _ rfl, fun j hj => ?_⟩
  obtain ⟨y, hy⟩ := hc j hj
  rw [Array.getElem?_setIfInBounds]
  split
  · split
    · exact ⟨x, rfl⟩
    · rename_i e q
      subst e
      rw [Array.getElem?_eq_none (by omega)] at hy
      cases hy
  · exact ⟨y, hy⟩
theorem U8B.kept (h : U8B w g n) (hb : Below w.heap.size w w') : U8B w' g n := by
  obtain ⟨arr, h1, hc⟩ := h
  exact ⟨arr, h1.kept hb, hc⟩
theorem U8B.tch {S : Nat → Prop} (h : U8B w g n) (ht : Tch S w w') (hs : ¬ S g) : U8B w' g n := by
  obtain ⟨arr, h1, hc⟩ := h
  exact ⟨arr, h1.tch ht hs, hc⟩
theorem RowB.u8 {d : Nat → Int} (h : RowB w g d) : U8B w g 512 := ⟨_, h, fun i hi => ⟨d i, by rw [List.getElem?_toArray, bytesL_at d hi]⟩⟩
theorem owB_u8 {base n : Nat} {v : Value} {d : Nat → Int} (h : OwnS w base 5 1 v n (fun j => [.int .u8 (d j)])) (hn : 0 < n) : ∃ g c, v = .slice (some ⟨g, 0, none⟩) n c ∧ base ≤ g ∧ U8B w g n := by
  obtain ⟨g, cap, F, e, h1, h2, h3, h4, h5, h6⟩ := h.row (fun _ => rfl) hn
  refine ⟨g, cap, e, h1, _, h4, fun i hi => ⟨d i, ?_⟩⟩
  rw [List.getElem?_toArray]
  have := fm_at (f := F) (n := cap) h5 (show 0 < 1 by omega) (show i < cap by omega)
  simp only [Nat.mul_one, Nat.add_zero] at this
  exact this.trans (by rw [h6 i hi]; rfl)
end
theorem rnew_ex (n : Nat) (h8 : 8 ≤ n) (h9 : n ≤ 4096) (w : World) : Calls Try.prog 10 #[.int .i64 n] w fun r w' => ∃ As cs Aw cw, r = .returned (.tuple #[.agg #[.slice As n cs, .slice Aw 0 cw, .int .i64 (-1), .bool false, .int .i64 0], .int .i64 0]) ∧ RfAt w' (.slice As n cs) (.slice Aw 0 cw) (DS.new n) ∧ Below w.heap.size w w' ∧ (∀ b, (Value.slice As n cs).ownBlock = some b → w.heap.size ≤ b) ∧ ∀ b, (Value.slice Aw 0 cw).ownBlock = some b → w.heap.size ≤ b := by
  refine (rnew_ok n h8 h9 w).mono ?_
  rintro r w' ⟨sv, wv, rfl, h1, h2, h3, h4⟩
  obtain ⟨As, cs, Aw, cw, rfl, rfl⟩ := h1.form
  exact ⟨As, cs, Aw, cw, rfl, h1, h2, h3, h4⟩
theorem rwrite_ex (As Aw : Option Addr) (nn mm cs cw : Nat) (d : DS) (z : Int) (len : Nat) (e : Nat → Int) (hn : d.n ≤ 4096) (hm : d.m ≤ 100000) (hk : d.k ≤ 100000) (hf : -10 < d.f ∧ d.f < 9223372036854775808) (w : World) (h : RfAt w (.slice As nn cs) (.slice Aw mm cw) d) :
    Calls Try.prog 13 #[.agg #[.slice As nn cs, .slice Aw mm cw, .int .i64 d.f, .bool d.dn, .int .i64 d.k], .int .i64 z, .string (strF e len)] w fun r w' => ∃ A2 c2, r = .returned (.tuple #[.agg #[.slice As nn cs, .slice A2 (d.write z len e).m c2, .int .i64 (d.write z len e).f, .bool (d.write z len e).dn, .int .i64 (d.write z len e).k], .int .i64 (d.werr z len)]) ∧ RfAt w' (.slice As nn cs) (.slice A2 (d.write z len e).m c2) (d.write z len e) ∧ Below w.heap.size w w' ∧ ∀ b, (Value.slice A2 (d.write z len e).m c2).ownBlock = some b → (Value.slice Aw mm cw).ownBlock = some b ∨ w.heap.size ≤ b := by
  refine (rwrite_any _ _ d z len e hn hm hk hf w h).mono ?_
  rintro r w' ⟨wv', rfl, h1, h2, h3⟩
  obtain ⟨As', cs', A2, c2, e1, rfl⟩ := h1.form
  exact ⟨A2, c2, rfl, h1, h2, h3⟩
end Go.Proofs.Ytnbfnlpepnbppaa
