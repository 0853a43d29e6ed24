/-
  Joined: Wrq Wru Bck.
-/
import Derived.Test.YtncampbmnbhikaaJ17
import Derived.Test.YtncampbmnbhikaaJ18
import Derived.Test.YtncampbmnbhikaaJ14
import Derived.Test.YtncampbmnbhikaaJ13
import Derived.Test.YtncampbmnbhikaaJ10
import Derived.Test.YtncampbmnbhikaaJ15
import Derived.Test.YtncampbmnbhikaaJ9
-- Wrq
namespace Go.Proofs.Ytncampbmnbhikaa
set_option linter.unusedVariables false
set_option linter.unusedSimpArgs false
open Go.RowKit

theorem or4p (y : Nat → Int) (hy : ∀ i, 0 ≤ y i ∧ y i < 256) (s : Nat) : bits .or .u32 (bits .or .u32 (bits .or .u32 (y s * 16777216) (y (s + 1) * 65536)) (y (s + 2) * 256)) (y (s + 3)) = num y s 4 := by
  have t := or4 y hy s
  have h0 := hy s
  have h1 := hy (s + 1)
  have h2 := hy (s + 2)
  have h3 := hy (s + 3)
  have w : ∀ z : Int, 0 ≤ z → z < 4294967296 → IntKind.u32.wrap z = z := fun z q1 q2 => by rw [IntKind.wrap_u32]; omega
  rw [w (y s) (by omega) (by omega), w (y (s + 1)) (by omega) (by omega), w (y (s + 2)) (by omega) (by omega), w (y (s + 3)) (by omega) (by omega), w (y s * 16777216) (by omega) (by omega), w (y (s + 1) * 65536) (by omega) (by omega), w (y (s + 2) * 256) (by omega) (by omega)] at t
  exact t
section
attribute [local go_sem] loadV_ptr storeV_ptr
attribute [local go_sem ↓] load_WP store_WP
set_option maxRecDepth 8000 in
set_option maxHeartbeats 4000000 in
theorem getReply_k7 (B : Option Addr) (n c : Nat) (e : Nat → Int) (he : ∀ i, 0 ≤ e i ∧ e i < 256) (hmc : n ≤ c) (hC : c ≤ maxLen) (hn : n ≤ 100000) (w : World) (hs : SlIs w B n (yV e)) (h6 : n = 6) (h0 : e 0 = 0) (h1 : e 1 = 7) :
    Calls Try.prog 11 #[.slice B n c] w fun r w' => r = .returned (.tuple #[.agg #[.int .i64 0, .int .i64 7, .slice none 0 0, .slice none 0 0, .slice none 0 0, .slice none 0 0, .int .u32 (num e 2 4)], .bool true]) ∧ Below w.heap.size w w' := by
  obtain ⟨b, o, rfl, hbl, hc⟩ := hs (by omega)
  have hc0 : w.cell? ⟨b, o, none⟩ = some (.int .u8 0) := (hc 0 (by omega)).trans (by simp only [yV, h0])
  have hc1 : w.cell? ⟨b, o + 1, none⟩ = some (.int .u8 7) := (hc 1 (by omega)).trans (by simp only [yV, h1])
  have hc2 : w.cell? ⟨b, o + 2, none⟩ = some (.int .u8 (e 2)) := hc 2 (by omega)
  have hc3 : w.cell? ⟨b, o + 2 + 1, none⟩ = some (.int .u8 (e 3)) := hc 3 (by omega)
  have hc4 : w.cell? ⟨b, o + 2 + 2, none⟩ = some (.int .u8 (e 4)) := hc 4 (by omega)
  have hc5 : w.cell? ⟨b, o + 2 + 3, none⟩ = some (.int .u8 (e 5)) := hc 5 (by omega)
  have hO := Lib.hid (or4p e he 2)
  subst h6
  unfold maxLen at hC
  have hcc : c ≠ 2 := by omega
  have y2 := he 2
  have y3 := he 3
  have y4 := he 4
  have y5 := he 5
  clear hc hs
  go_enter Try.func11, Try.ntmps11
  go_wp2_with fail
  refine abs_wp (fun X => Below w.heap.size w X ∧ Blk X w.heap.size 28 #[.int .i64 0, .int .i64 0, .slice none 0 0, .slice none 0 0, .slice none 0 0, .slice none 0 0, .int .u32 0] ∧ Blk X (w.heap.size + 1) 28 #[.int .i64 0, .int .i64 7, .slice none 0 0, .slice none 0 0, .slice none 0 0, .slice none 0 0, .int .u32 0]) ⟨by (repeat (first | exact Below.refl _ _ | assumption | refine below_drewN ?_ _ | refine bel_grow ?_ _ | refine Below.drew ?_ | refine bel_alloc ?_ _ | refine bel_set ?_ (by first | exact Nat.le_refl _ | (simp; done) | (simp; omega) | omega) _ | refine bel_trans ?_ (by assumption))), (Blk.new _ _ _).kept (bel_alloc (Below.refl _ _) _), Blk.newE (l := [.int .i64 0, .int .i64 7, .slice none 0 0, .slice none 0 0, .slice none 0 0, .slice none 0 0, .int .u32 0]) (by simp) rfl⟩ ?_
  rintro W1 ⟨hb1, g_r, g_t⟩
  replace hc2 := keepc hb1 hc2
  replace hc3 := keepc hb1 hc3
  replace hc4 := keepc hb1 hc4
  replace hc5 := keepc hb1 hc5
  replace hbl := Nat.lt_of_lt_of_le hbl hb1.size
  replace hb1 := Lib.hid hb1
  clear hc0 hc1
  have r_t := rowAt_blk g_t
  have r_r := rowAt_blk g_r
  have t0 := (g_t).cell 0
  have t1 := (g_t).cell 1
  have t2 := (g_t).cell 2
  have t3 := (g_t).cell 3
  have t4 := (g_t).cell 4
  have t5 := (g_t).cell 5
  have t6 := (g_t).cell 6
  have tf0 := (g_t).frozen 0
  have tf1 := (g_t).frozen 1
  have tf2 := (g_t).frozen 2
  have tf3 := (g_t).frozen 3
  have tf4 := (g_t).frozen 4
  have tf5 := (g_t).frozen 5
  have tf6 := (g_t).frozen 6
  have tl := (g_t).lt
  have r_l := g_r.lt
  replace g_t := Lib.hid g_t
  replace g_r := Lib.hid g_r
  first | (with_reducible refine rtail2 22 (by kernel_rfl) (by kernel_rfl) ?_) | (refine rtail 22 (by kernel_rfl) (by kernel_rfl) ?_)
  simp only [List.take_succ_cons, List.take_zero, List.drop_succ_cons, List.drop_zero]
  repeat (go_big_quiet_step ((fail)))
  refine wpQuiet_nil ?_
  intro dr
  go_wp2_with fail
  (
      refine abs_post (fun Y_ => Below w.heap.size w Y_ ∧ Blk Y_ w.heap.size 28 #[.int .i64 0, .int .i64 7, .slice none 0 0, .slice none 0 0, .slice none 0 0, .slice none 0 0, .int .u32 (num e 2 4)]) ⟨bel_setRow (bel_set (bel_grow hb1.out _) (by dsimp only; omega) _) (Nat.le_refl _) _, ((g_r.out.kept (grow_below _ _)).far (by dsimp only; omega) _).setRow (by rw [hO.out])⟩ ?_
      rintro Y_ ⟨bZ_, gP_⟩
      have HLV := loadVar_blk (ty := 28) Try.underlying28 rfl (by kernel_rfl) gP_ rfl
      refine bodyPost_ret (v := .tuple #[.agg #[.int .i64 0, .int .i64 7, .slice none 0 0, .slice none 0 0, .slice none 0 0, .slice none 0 0, .int .u32 (num e 2 4)], .bool true]) (results_ct Try.results11 rfl HLV) rfl ⟨rfl, bZ_⟩)
end
end Go.Proofs.Ytncampbmnbhikaa
-- Wru
namespace Go.Proofs.Ytncampbmnbhikaa
set_option linter.unusedVariables false
set_option linter.unusedSimpArgs false
open Go.RowKit

structure Rp where
  st : Int
  kd : Int
  rn : Nat
  RF : Nat → Nat → Int
  an : Nat
  AF : Nat → Nat → Int
  tn : Nat
  TF : Nat → Nat → Int
  bn : Nat
  BF : Nat → Nat → Int
  ct : Int
def okRp (d : Rp) : Prop := (∀ i, okR (d.RF i)) ∧ (∀ i, okA (d.AF i)) ∧ (∀ i, okT (d.TF i)) ∧ (∀ i, okB (d.BF i)) ∧ 0 ≤ d.ct ∧ d.ct < 4294967296
def fitRp (d : Rp) : Prop := d.rn ≤ 5000 ∧ d.an ≤ 5000 ∧ d.tn ≤ 5000 ∧ d.bn ≤ 5000
def RpIs (w : World) (RA AA TA BA : Option Addr) (d : Rp) : Prop := SsIs w RA d.rn 2 (fun i => clR (d.RF i)) ∧ SsIs w AA d.an 15 (fun i => clA (d.AF i)) ∧ SsIs w TA d.tn 16 (fun i => clT (d.TF i)) ∧ SsIs w BA d.bn 9 (fun i => clB (d.BF i))
theorem RpIs.below {w w' : World} {RA AA TA BA : Option Addr} {d : Rp} (h : RpIs w RA AA TA BA d) (hb : Below w.heap.size w w') : RpIs w' RA AA TA BA d := ⟨h.1.below hb, h.2.1.below hb, h.2.2.1.below hb, h.2.2.2.below hb⟩
def lenRp (d : Rp) : Nat := if d.st < 0 ∨ 4 < d.st then 0 else if d.st ≠ 0 then 1 else if d.kd = 1 ∨ d.kd = 2 then 2 + d.rn * 8 else if d.kd = 3 then 2 + d.an * 104 else if d.kd = 4 ∨ d.kd = 5 then 2 + d.tn * 108 else if d.kd = 6 then 2 + d.bn * 72 else if d.kd = 7 then 6 else 0
def bytRp (d : Rp) : Nat → Int := if d.st ≠ 0 then fun _ => d.st else cat (hd2 d.kd) 2 (if d.kd = 1 ∨ d.kd = 2 then rowsF 8 (fun i => byR (d.RF i)) else if d.kd = 3 then rowsF 104 (fun i => byA (d.AF i)) else if d.kd = 4 ∨ d.kd = 5 then rowsF 108 (fun i => byT (d.TF i)) else if d.kd = 6 then rowsF 72 (fun i => byB (d.BF i)) else nb 4 d.ct)
theorem putReply_any (d : Rp) (RA AA TA BA : Option Addr) (rc ac tc bc : Nat) (w : World) (h : okRp d) (hn : fitRp d) (hs : RpIs w RA AA TA BA d) :
    Calls Try.prog 9 #[.agg #[.int .i64 d.st, .int .i64 d.kd, .slice RA d.rn rc, .slice AA d.an ac, .slice TA d.tn tc, .slice BA d.bn bc, .int .u32 d.ct]] w fun r w' => ∃ v', r = .returned v' ∧ OwnB w' w.heap.size v' (lenRp d) (bytRp d) ∧ Below w.heap.size w w' := by
  obtain ⟨st, kd, rn, RF, an, AF, tn, TF, bn, BF, ct⟩ := d
  obtain ⟨h1, h2, h3, h4, h5, h6⟩ := h
  obtain ⟨f1, f2, f3, f4⟩ := hn
  obtain ⟨s1, s2, s3, s4⟩ := hs
  dsimp only at *
  by_cases c0 : st < 0 ∨ 4 < st
  · have e1 : lenRp ⟨st, kd, rn, RF, an, AF, tn, TF, bn, BF, ct⟩ = 0 := if_pos c0
    rw [e1]
    exact (putReply_bad RA AA TA BA rn rc an ac tn tc bn bc st kd ct w c0).mono (by rintro r w' ⟨rfl, hb⟩; exact ⟨_, rfl, OwnB.nil _ _ _, hb⟩)
  by_cases c1 : st ≠ 0
  · have e1 : lenRp ⟨st, kd, rn, RF, an, AF, tn, TF, bn, BF, ct⟩ = 1 := (if_neg c0).trans (if_pos c1)
    have e2 : bytRp ⟨st, kd, rn, RF, an, AF, tn, TF, bn, BF, ct⟩ = fun _ => st := if_pos c1
    rw [e1, e2]
    exact putReply_st RA AA TA BA rn rc an ac tn tc bn bc st kd ct w (by omega)
  obtain rfl : st = 0 := by omega
  by_cases c2 : kd < 1 ∨ 7 < kd
  · have e1 : lenRp ⟨0, kd, rn, RF, an, AF, tn, TF, bn, BF, ct⟩ = 0 := by
      unfold lenRp
      rw [if_neg (by simp), if_neg (by simp), if_neg (by dsimp only; omega), if_neg (by dsimp only; omega), if_neg (by dsimp only; omega), if_neg (by dsimp only; omega), if_neg (by dsimp only; omega)]
    rw [e1]
    exact (putReply_kd RA AA TA BA rn rc an ac tn tc bn bc kd ct w c2).mono (by rintro r w' ⟨rfl, hb⟩; exact ⟨_, rfl, OwnB.nil _ _ _, hb⟩)
  rcases (by omega : kd = 1 ∨ kd = 2 ∨ kd = 3 ∨ kd = 4 ∨ kd = 5 ∨ kd = 6 ∨ kd = 7) with rfl | rfl | rfl | rfl | rfl | rfl | rfl
  · exact putReply_k1 RA AA TA BA rn rc an ac tn tc bn bc RF ct w h1 f1 s1
  · exact putReply_k2 RA AA TA BA rn rc an ac tn tc bn bc RF ct w h1 f1 s1
  · exact putReply_k3 RA AA TA BA rn rc an ac tn tc bn bc AF ct w h2 f2 s2
  · exact putReply_k4 RA AA TA BA rn rc an ac tn tc bn bc TF ct w h3 f3 s3
  · exact putReply_k5 RA AA TA BA rn rc an ac tn tc bn bc TF ct w h3 f3 s3
  · exact putReply_k6 RA AA TA BA rn rc an ac tn tc bn bc BF ct w h4 f4 s4
  · exact putReply_k7 RA AA TA BA rn rc an ac tn tc bn bc ct w ⟨h5, h6⟩
theorem refReply_any (d : Rp) (RA AA TA BA : Option Addr) (rc ac tc bc : Nat) (w : World) (h : okRp d) (hn : fitRp d) (hs : RpIs w RA AA TA BA d) :
    Calls Try.prog 10 #[.agg #[.int .i64 d.st, .int .i64 d.kd, .slice RA d.rn rc, .slice AA d.an ac, .slice TA d.tn tc, .slice BA d.bn bc, .int .u32 d.ct]] w fun r w' => r = .returned (.string (strF (bytRp d) (lenRp d))) ∧ Below w.heap.size w w' := by
  obtain ⟨st, kd, rn, RF, an, AF, tn, TF, bn, BF, ct⟩ := d
  obtain ⟨h1, h2, h3, h4, h5, h6⟩ := h
  obtain ⟨f1, f2, f3, f4⟩ := hn
  obtain ⟨s1, s2, s3, s4⟩ := hs
  dsimp only at *
  by_cases c0 : st < 0 ∨ 4 < st
  · have e1 : lenRp ⟨st, kd, rn, RF, an, AF, tn, TF, bn, BF, ct⟩ = 0 := if_pos c0
    rw [e1]
    exact refReply_bad RA AA TA BA rn rc an ac tn tc bn bc st kd ct w c0 _
  by_cases c1 : st ≠ 0
  · have e1 : lenRp ⟨st, kd, rn, RF, an, AF, tn, TF, bn, BF, ct⟩ = 1 := (if_neg c0).trans (if_pos c1)
    have e2 : bytRp ⟨st, kd, rn, RF, an, AF, tn, TF, bn, BF, ct⟩ = fun _ => st := if_pos c1
    rw [e1, e2]
    exact refReply_st RA AA TA BA rn rc an ac tn tc bn bc st kd ct w (by omega)
  obtain rfl : st = 0 := by omega
  by_cases c2 : kd < 1 ∨ 7 < kd
  · have e1 : lenRp ⟨0, kd, rn, RF, an, AF, tn, TF, bn, BF, ct⟩ = 0 := by
      unfold lenRp
      rw [if_neg (by simp), if_neg (by simp), if_neg (by dsimp only; omega), if_neg (by dsimp only; omega), if_neg (by dsimp only; omega), if_neg (by dsimp only; omega), if_neg (by dsimp only; omega)]
    rw [e1]
    exact refReply_kd RA AA TA BA rn rc an ac tn tc bn bc kd ct w c2 _
  rcases (by omega : kd = 1 ∨ kd = 2 ∨ kd = 3 ∨ kd = 4 ∨ kd = 5 ∨ kd = 6 ∨ kd = 7) with rfl | rfl | rfl | rfl | rfl | rfl | rfl
  · exact refReply_k1 RA AA TA BA rn rc an ac tn tc bn bc RF ct w h1 f1 s1
  · exact refReply_k2 RA AA TA BA rn rc an ac tn tc bn bc RF ct w h1 f1 s1
  · exact refReply_k3 RA AA TA BA rn rc an ac tn tc bn bc AF ct w h2 f2 s2
  · exact refReply_k4 RA AA TA BA rn rc an ac tn tc bn bc TF ct w h3 f3 s3
  · exact refReply_k5 RA AA TA BA rn rc an ac tn tc bn bc TF ct w h3 f3 s3
  · exact refReply_k6 RA AA TA BA rn rc an ac tn tc bn bc BF ct w h4 f4 s4
  · exact refReply_k7 RA AA TA BA rn rc an ac tn tc bn bc ct w ⟨h5, h6⟩
def zeroRp : Rp := ⟨0, 0, 0, fun _ _ => 0, 0, fun _ _ => 0, 0, fun _ _ => 0, 0, fun _ _ => 0, 0⟩
/-- the reply of n bytes; none: they are none's -/
def readRp (n : Nat) (e : Nat → Int) : Option Rp :=
  if n = 1 ∧ 1 ≤ e 0 ∧ e 0 ≤ 4 then some { zeroRp with st := e 0 }
  else if n < 2 ∨ e 0 ≠ 0 then none
  else if (e 1 = 1 ∨ e 1 = 2) ∧ (n - 2) % 8 = 0 then some { zeroRp with kd := e 1, rn := (n - 2) / 8, RF := fun i => rdR (shf e (2 + i * 8)) }
  else if e 1 = 3 ∧ (n - 2) % 104 = 0 then some { zeroRp with kd := e 1, an := (n - 2) / 104, AF := fun i => rdA (shf e (2 + i * 104)) }
  else if (e 1 = 4 ∨ e 1 = 5) ∧ (n - 2) % 108 = 0 then some { zeroRp with kd := e 1, tn := (n - 2) / 108, TF := fun i => rdT (shf e (2 + i * 108)) }
  else if e 1 = 6 ∧ (n - 2) % 72 = 0 then some { zeroRp with kd := e 1, bn := (n - 2) / 72, BF := fun i => rdB (shf e (2 + i * 72)) }
  else if e 1 = 7 ∧ n = 6 then some { zeroRp with kd := 7, ct := num e 2 4 }
  else none
/-- what GetReply answers, if that is the reply -/
def GotRp (r : Ending) (w w' : World) (q : Option Rp) : Prop :=
  ∃ (d : Rp) (RA AA TA BA : Option Addr) (rc ac tc bc : Nat), d = q.getD zeroRp ∧ r = .returned (.tuple #[.agg #[.int .i64 d.st, .int .i64 d.kd, .slice RA d.rn rc, .slice AA d.an ac, .slice TA d.tn tc, .slice BA d.bn bc, .int .u32 d.ct], .bool q.isSome]) ∧ RpIs w' RA AA TA BA d ∧ Below w.heap.size w w'
theorem got_none {r : Ending} {w w' : World} (h : r = .returned (.tuple #[.agg #[.int .i64 0, .int .i64 0, .slice none 0 0, .slice none 0 0, .slice none 0 0, .slice none 0 0, .int .u32 0], .bool false]) ∧ Below w.heap.size w w') : GotRp r w w' none := ⟨zeroRp, none, none, none, none, 0, 0, 0, 0, rfl, h.1, ⟨SsIs.nil, SsIs.nil, SsIs.nil, SsIs.nil⟩, h.2⟩
set_option maxHeartbeats 1000000 in
theorem getReply_any (B : Option Addr) (n c : Nat) (e : Nat → Int) (he : ∀ i, 0 ≤ e i ∧ e i < 256) (hmc : n ≤ c) (hC : c ≤ maxLen) (hn : n ≤ 100000) (w : World) (hs : SlIs w B n (yV e)) :
    Calls Try.prog 11 #[.slice B n c] w fun r w' => GotRp r w w' (readRp n e) := by
  have y0 := he 0
  have y1 := he 1
  unfold readRp
  by_cases c0 : n = 1 ∧ 1 ≤ e 0 ∧ e 0 ≤ 4
  · rw [if_pos c0]
    refine (getReply_st B n c e he hmc hC hn w hs c0.1 c0.2).mono ?_
    rintro r w' ⟨rfl, hb⟩
    exact ⟨_, none, none, none, none, 0, 0, 0, 0, rfl, rfl, ⟨SsIs.nil, SsIs.nil, SsIs.nil, SsIs.nil⟩, hb⟩
  rw [if_neg c0]
  by_cases c1 : n < 2 ∨ e 0 ≠ 0
  · rw [if_pos c1]
    by_cases z : n = 0
    · exact (getReply_zero B n c e he hmc hC hn w hs z).mono (fun r w' h => got_none h)
    by_cases z1 : n = 1
    · exact (getReply_one B n c e he hmc hC hn w hs z1 (by omega)).mono (fun r w' h => got_none h)
    · exact (getReply_head B n c e he hmc hC hn w hs (by omega) (by omega)).mono (fun r w' h => got_none h)
  rw [if_neg c1]
  have n2 : 2 ≤ n := by omega
  have h0 : e 0 = 0 := by omega
  by_cases c2 : e 1 < 1 ∨ 7 < e 1
  · rw [if_neg (by omega), if_neg (by omega), if_neg (by omega), if_neg (by omega), if_neg (by omega)]
    exact (getReply_kd B n c e he hmc hC hn w hs n2 h0 c2).mono (fun r w' h => got_none h)
  rcases (by omega : e 1 = 1 ∨ e 1 = 2 ∨ e 1 = 3 ∨ e 1 = 4 ∨ e 1 = 5 ∨ e 1 = 6 ∨ e 1 = 7) with h1 | h1 | h1 | h1 | h1 | h1 | h1
  · by_cases m : (n - 2) % 8 = 0
    · rw [if_pos (by omega)]
      refine (getReply_k1 B n c ((n - 2) / 8) e he hmc hC hn (by omega) w hs h0 h1).mono ?_
      rintro r w' ⟨A', c', rfl, _, h2, hb⟩
      exact ⟨_, A', none, none, none, c', 0, 0, 0, rfl, by simp only [Option.getD_some, Option.isSome_some, h1]; rfl, ⟨h2, SsIs.nil, SsIs.nil, SsIs.nil⟩, hb⟩
    · rw [if_neg (by omega), if_neg (by omega), if_neg (by omega), if_neg (by omega), if_neg (by omega)]
      exact (getReply_n1 B n c e he hmc hC hn w hs n2 m h0 h1).mono (fun r w' h => got_none h)
  · by_cases m : (n - 2) % 8 = 0
    · rw [if_pos (by omega)]
      refine (getReply_k2 B n c ((n - 2) / 8) e he hmc hC hn (by omega) w hs h0 h1).mono ?_
      rintro r w' ⟨A', c', rfl, _, h2, hb⟩
      exact ⟨_, A', none, none, none, c', 0, 0, 0, rfl, by simp only [Option.getD_some, Option.isSome_some, h1]; rfl, ⟨h2, SsIs.nil, SsIs.nil, SsIs.nil⟩, hb⟩
    · rw [if_neg (by omega), if_neg (by omega), if_neg (by omega), if_neg (by omega), if_neg (by omega)]
      exact (getReply_n2 B n c e he hmc hC hn w hs n2 m h0 h1).mono (fun r w' h => got_none h)
  · by_cases m : (n - 2) % 104 = 0
    · rw [if_neg (by omega), if_pos (by omega)]
      refine (getReply_k3 B n c ((n - 2) / 104) e he hmc hC hn (by omega) w hs h0 h1).mono ?_
      rintro r w' ⟨A', c', rfl, _, h2, hb⟩
      exact ⟨_, none, A', none, none, 0, c', 0, 0, rfl, by simp only [Option.getD_some, Option.isSome_some, h1]; rfl, ⟨SsIs.nil, h2, SsIs.nil, SsIs.nil⟩, hb⟩
    · rw [if_neg (by omega), if_neg (by omega), if_neg (by omega), if_neg (by omega), if_neg (by omega)]
      exact (getReply_n3 B n c e he hmc hC hn w hs n2 m h0 h1).mono (fun r w' h => got_none h)
  · by_cases m : (n - 2) % 108 = 0
    · rw [if_neg (by omega), if_neg (by omega), if_pos (by omega)]
      refine (getReply_k4 B n c ((n - 2) / 108) e he hmc hC hn (by omega) w hs h0 h1).mono ?_
      rintro r w' ⟨A', c', rfl, _, h2, hb⟩
      exact ⟨_, none, none, A', none, 0, 0, c', 0, rfl, by simp only [Option.getD_some, Option.isSome_some, h1]; rfl, ⟨SsIs.nil, SsIs.nil, h2, SsIs.nil⟩, hb⟩
    · rw [if_neg (by omega), if_neg (by omega), if_neg (by omega), if_neg (by omega), if_neg (by omega)]
      exact (getReply_n4 B n c e he hmc hC hn w hs n2 m h0 h1).mono (fun r w' h => got_none h)
  · by_cases m : (n - 2) % 108 = 0
    · rw [if_neg (by omega), if_neg (by omega), if_pos (by omega)]
      refine (getReply_k5 B n c ((n - 2) / 108) e he hmc hC hn (by omega) w hs h0 h1).mono ?_
      rintro r w' ⟨A', c', rfl, _, h2, hb⟩
      exact ⟨_, none, none, A', none, 0, 0, c', 0, rfl, by simp only [Option.getD_some, Option.isSome_some, h1]; rfl, ⟨SsIs.nil, SsIs.nil, h2, SsIs.nil⟩, hb⟩
    · rw [if_neg (by omega), if_neg (by omega), if_neg (by omega), if_neg (by omega), if_neg (by omega)]
      exact (getReply_n5 B n c e he hmc hC hn w hs n2 m h0 h1).mono (fun r w' h => got_none h)
  · by_cases m : (n - 2) % 72 = 0
    · rw [if_neg (by omega), if_neg (by omega), if_neg (by omega), if_pos (by omega)]
      refine (getReply_k6 B n c ((n - 2) / 72) e he hmc hC hn (by omega) w hs h0 h1).mono ?_
      rintro r w' ⟨A', c', rfl, _, h2, hb⟩
      exact ⟨_, none, none, none, A', 0, 0, 0, c', rfl, by simp only [Option.getD_some, Option.isSome_some, h1]; rfl, ⟨SsIs.nil, SsIs.nil, SsIs.nil, h2⟩, hb⟩
    · rw [if_neg (by omega), if_neg (by omega), if_neg (by omega), if_neg (by omega), if_neg (by omega)]
      exact (getReply_n6 B n c e he hmc hC hn w hs n2 m h0 h1).mono (fun r w' h => got_none h)
  · rw [if_neg (by omega), if_neg (by omega), if_neg (by omega), if_neg (by omega)]
    by_cases m : n = 6
    · rw [if_pos ⟨h1, m⟩]
      refine (getReply_k7 B n c e he hmc hC hn w hs m h0 h1).mono ?_
      rintro r w' ⟨rfl, hb⟩
      exact ⟨_, none, none, none, none, 0, 0, 0, 0, rfl, rfl, ⟨SsIs.nil, SsIs.nil, SsIs.nil, SsIs.nil⟩, hb⟩
    · rw [if_neg (by omega)]
      exact (getReply_n7 B n c e he hmc hC hn w hs n2 h0 h1 m).mono (fun r w' h => got_none h)
end Go.Proofs.Ytncampbmnbhikaa
-- Bck
namespace Go.Proofs.Ytncampbmnbhikaa
set_option linter.unusedVariables false
set_option linter.unusedSimpArgs false
open Go.RowKit

theorem num_div {e : Nat → Int} (he : ∀ i, 0 ≤ e i ∧ e i < 256) (s j : Nat) : ∀ k, num e s (j + k) / 256 ^ k = num e s j
  | 0 => by simp
  | k + 1 => by
    have h1 : (num e s (j + k) * 256 + e (s + (j + k))) / 256 = num e s (j + k) := by have := he (s + (j + k)); omega
    have h2 : (256 : Int) ^ (k + 1) = 256 * 256 ^ k := by rw [Int.pow_succ, Int.mul_comm]
    show (num e s (j + k) * 256 + e (s + (j + k))) / 256 ^ (k + 1) = _
    rw [h2, ← Int.ediv_ediv_of_nonneg (by omega), h1, num_div he s j k]
theorem nb_num {e : Nat → Int} (he : ∀ i, 0 ≤ e i ∧ e i < 256) (s k j : Nat) (hj : j < k) : nb k (num e s k) j = e (s + j) := by
  unfold nb
  have h := num_div he s (j + 1) (k - 1 - j)
  rw [show j + 1 + (k - 1 - j) = k by omega] at h
  rw [h]
  show (num e s j * 256 + e (s + j)) % 256 = _
  have := he (s + j)
  omega
theorem dgt_num {e : Nat → Int} (he : ∀ i, 0 ≤ e i ∧ e i < 256) (s t : Nat) (ht : t = s + 8) (j : Nat) (hj : j < 16) : dgt (num e s 8) (num e t 8) j = e (s + j) := by
  subst ht
  by_cases h : j < 8
  · rw [dgt_hi _ _ j h]; exact nb_num he s 8 j h
  · obtain ⟨m, rfl⟩ : ∃ m, j = 8 + m := ⟨j - 8, by omega⟩
    rw [dgt_low _ _ m (by omega)]
    have := nb_num he (s + 8) 8 m (by omega)
    unfold nb at this
    exact this.trans (congrArg e (by omega))
theorem cat_back {d f E : Nat → Int} {n m N : Nat} (hN : n + m = N) (h1 : ∀ j, j < n → d j = E j) (h2 : ∀ j, j < m → f j = E (n + j)) : ∀ j, j < N → cat d n f j = E j := by
  intro j hj
  by_cases h : j < n
  · rw [cat_lo h]; exact h1 j h
  · obtain ⟨i, rfl⟩ : ∃ i, j = n + i := ⟨j - n, by omega⟩
    rw [cat_hi]
    exact h2 i (by omega)
section
variable {E : Nat → Int} (hE : ∀ i, 0 ≤ E i ∧ E i < 256)
include hE
theorem dgt_back : ∀ j, j < 16 → dgt (num E 0 8) (num E 8 8) j = E j := fun j hj => by rw [dgt_num hE 0 8 rfl j hj, Nat.zero_add]
theorem putTransfer_num : ∀ j, j < 108 → putTransferD (num E 0 8) (num E 8 8) (num E 16 8) (num E 24 8) (num E 32 8) (num E 40 8) (num E 48 8) (num E 56 8) (num E 64 8) (num E 72 8) (num E 80 8) (num E 88 4) (num E 92 4) (num E 96 2) (num E 98 2) (num E 100 8) j = E j := by
  rw [refTransfer_D]
  exact (cat_back (n := 100) (m := 8) rfl (cat_back (n := 98) (m := 2) rfl (cat_back (n := 96) (m := 2) rfl (cat_back (n := 92) (m := 4) rfl (cat_back (n := 88) (m := 4) rfl (cat_back (n := 80) (m := 8) rfl (cat_back (n := 64) (m := 16) rfl (cat_back (n := 48) (m := 16) rfl (cat_back (n := 32) (m := 16) rfl (cat_back (n := 16) (m := 16) rfl (fun j hj => (dgt_num hE 0 8 rfl j hj).trans (congrArg E (by omega))) (fun j hj => dgt_num hE 16 24 rfl j hj)) (fun j hj => dgt_num hE 32 40 rfl j hj)) (fun j hj => dgt_num hE 48 56 rfl j hj)) (fun j hj => dgt_num hE 64 72 rfl j hj)) (fun j hj => nb_num hE 80 8 j hj)) (fun j hj => nb_num hE 88 4 j hj)) (fun j hj => nb_num hE 92 4 j hj)) (fun j hj => nb_num hE 96 2 j hj)) (fun j hj => nb_num hE 98 2 j hj)) (fun j hj => nb_num hE 100 8 j hj))
theorem putAccount_num : ∀ j, j < 104 → putAccountD (num E 0 8) (num E 8 8) (num E 16 8) (num E 24 8) (num E 32 8) (num E 40 8) (num E 48 8) (num E 56 8) (num E 64 8) (num E 72 8) (num E 80 8) (num E 88 4) (num E 92 2) (num E 94 2) (num E 96 8) j = E j := by
  rw [refAccount_D]
  exact (cat_back (n := 96) (m := 8) rfl (cat_back (n := 94) (m := 2) rfl (cat_back (n := 92) (m := 2) rfl (cat_back (n := 88) (m := 4) rfl (cat_back (n := 80) (m := 8) rfl (cat_back (n := 64) (m := 16) rfl (cat_back (n := 48) (m := 16) rfl (cat_back (n := 32) (m := 16) rfl (cat_back (n := 16) (m := 16) rfl (fun j hj => (dgt_num hE 0 8 rfl j hj).trans (congrArg E (by omega))) (fun j hj => dgt_num hE 16 24 rfl j hj)) (fun j hj => dgt_num hE 32 40 rfl j hj)) (fun j hj => dgt_num hE 48 56 rfl j hj)) (fun j hj => dgt_num hE 64 72 rfl j hj)) (fun j hj => nb_num hE 80 8 j hj)) (fun j hj => nb_num hE 88 4 j hj)) (fun j hj => nb_num hE 92 2 j hj)) (fun j hj => nb_num hE 94 2 j hj)) (fun j hj => nb_num hE 96 8 j hj))
theorem putBalance_num : ∀ j, j < 72 → putBalanceD (num E 0 8) (num E 8 8) (num E 16 8) (num E 24 8) (num E 32 8) (num E 40 8) (num E 48 8) (num E 56 8) (num E 64 8) j = E j := by
  rw [refBalance_D]
  exact (cat_back (n := 64) (m := 8) rfl (cat_back (n := 48) (m := 16) rfl (cat_back (n := 32) (m := 16) rfl (cat_back (n := 16) (m := 16) rfl (fun j hj => (dgt_num hE 0 8 rfl j hj).trans (congrArg E (by omega))) (fun j hj => dgt_num hE 16 24 rfl j hj)) (fun j hj => dgt_num hE 32 40 rfl j hj)) (fun j hj => dgt_num hE 48 56 rfl j hj)) (fun j hj => nb_num hE 64 8 j hj))
theorem putResult_num : ∀ j, j < 8 → putResultD (num E 0 4) (num E 4 4) j = E j := by
  rw [refResult_D]
  exact cat_back (n := 4) (m := 4) rfl (fun j hj => (nb_num hE 0 4 j hj).trans (congrArg E (by omega))) (fun j hj => nb_num hE 4 4 j hj)
end
theorem by_rdR {e : Nat → Int} (he : ∀ i, 0 ≤ e i ∧ e i < 256) : ∀ j, j < 8 → byR (rdR e) j = e j := putResult_num he
theorem by_rdA {e : Nat → Int} (he : ∀ i, 0 ≤ e i ∧ e i < 256) : ∀ j, j < 104 → byA (rdA e) j = e j := putAccount_num he
theorem by_rdT {e : Nat → Int} (he : ∀ i, 0 ≤ e i ∧ e i < 256) : ∀ j, j < 108 → byT (rdT e) j = e j := putTransfer_num he
theorem by_rdB {e : Nat → Int} (he : ∀ i, 0 ≤ e i ∧ e i < 256) : ∀ j, j < 72 → byB (rdB e) j = e j := putBalance_num he
theorem by_rdU {e : Nat → Int} (he : ∀ i, 0 ≤ e i ∧ e i < 256) : ∀ j, j < 16 → byU (rdU e) j = e j := dgt_back he
theorem ok_rdU {e : Nat → Int} (he : ∀ i, 0 ≤ e i ∧ e i < 256) : okU (rdU e)
  | 0 => num_eight he 0
  | 1 => num_eight he 8
  | _ + 2 => (show 0 ≤ (0 : Int) ∧ (0 : Int) < 1 by decide)
theorem ok_zeroU : okU (fun _ => 0)
  | 0 => (show 0 ≤ (0 : Int) ∧ (0 : Int) < 18446744073709551616 by decide)
  | 1 => (show 0 ≤ (0 : Int) ∧ (0 : Int) < 18446744073709551616 by decide)
  | _ + 2 => (show 0 ≤ (0 : Int) ∧ (0 : Int) < 1 by decide)
theorem ok_rdR {e : Nat → Int} (he : ∀ i, 0 ≤ e i ∧ e i < 256) : okR (rdR e)
  | 0 => num_four he 0
  | 1 => num_four he 4
  | _ + 2 => (show 0 ≤ (0 : Int) ∧ (0 : Int) < 1 by decide)
theorem ok_zeroR : okR (fun _ => 0)
  | 0 => (show 0 ≤ (0 : Int) ∧ (0 : Int) < 4294967296 by decide)
  | 1 => (show 0 ≤ (0 : Int) ∧ (0 : Int) < 4294967296 by decide)
  | _ + 2 => (show 0 ≤ (0 : Int) ∧ (0 : Int) < 1 by decide)
theorem ok_rdB {e : Nat → Int} (he : ∀ i, 0 ≤ e i ∧ e i < 256) : okB (rdB e)
  | 0 => num_eight he 0
  | 1 => num_eight he 8
  | 2 => num_eight he 16
  | 3 => num_eight he 24
  | 4 => num_eight he 32
  | 5 => num_eight he 40
  | 6 => num_eight he 48
  | 7 => num_eight he 56
  | 8 => num_eight he 64
  | _ + 9 => (show 0 ≤ (0 : Int) ∧ (0 : Int) < 1 by decide)
theorem ok_zeroB : okB (fun _ => 0)
  | 0 => (show 0 ≤ (0 : Int) ∧ (0 : Int) < 18446744073709551616 by decide)
  | 1 => (show 0 ≤ (0 : Int) ∧ (0 : Int) < 18446744073709551616 by decide)
  | 2 => (show 0 ≤ (0 : Int) ∧ (0 : Int) < 18446744073709551616 by decide)
  | 3 => (show 0 ≤ (0 : Int) ∧ (0 : Int) < 18446744073709551616 by decide)
  | 4 => (show 0 ≤ (0 : Int) ∧ (0 : Int) < 18446744073709551616 by decide)
  | 5 => (show 0 ≤ (0 : Int) ∧ (0 : Int) < 18446744073709551616 by decide)
  | 6 => (show 0 ≤ (0 : Int) ∧ (0 : Int) < 18446744073709551616 by decide)
  | 7 => (show 0 ≤ (0 : Int) ∧ (0 : Int) < 18446744073709551616 by decide)
  | 8 => (show 0 ≤ (0 : Int) ∧ (0 : Int) < 18446744073709551616 by decide)
  | _ + 9 => (show 0 ≤ (0 : Int) ∧ (0 : Int) < 1 by decide)
theorem ok_rdA {e : Nat → Int} (he : ∀ i, 0 ≤ e i ∧ e i < 256) : okA (rdA e)
  | 0 => num_eight he 0
  | 1 => num_eight he 8
  | 2 => num_eight he 16
  | 3 => num_eight he 24
  | 4 => num_eight he 32
  | 5 => num_eight he 40
  | 6 => num_eight he 48
  | 7 => num_eight he 56
  | 8 => num_eight he 64
  | 9 => num_eight he 72
  | 10 => num_eight he 80
  | 11 => num_four he 88
  | 12 => num_two he 92
  | 13 => num_two he 94
  | 14 => num_eight he 96
  | _ + 15 => (show 0 ≤ (0 : Int) ∧ (0 : Int) < 1 by decide)
theorem ok_zeroA : okA (fun _ => 0)
  | 0 => (show 0 ≤ (0 : Int) ∧ (0 : Int) < 18446744073709551616 by decide)
  | 1 => (show 0 ≤ (0 : Int) ∧ (0 : Int) < 18446744073709551616 by decide)
  | 2 => (show 0 ≤ (0 : Int) ∧ (0 : Int) < 18446744073709551616 by decide)
  | 3 => (show 0 ≤ (0 : Int) ∧ (0 : Int) < 18446744073709551616 by decide)
  | 4 => (show 0 ≤ (0 : Int) ∧ (0 : Int) < 18446744073709551616 by decide)
  | 5 => (show 0 ≤ (0 : Int) ∧ (0 : Int) < 18446744073709551616 by decide)
  | 6 => (show 0 ≤ (0 : Int) ∧ (0 : Int) < 18446744073709551616 by decide)
  | 7 => (show 0 ≤ (0 : Int) ∧ (0 : Int) < 18446744073709551616 by decide)
  | 8 => (show 0 ≤ (0 : Int) ∧ (0 : Int) < 18446744073709551616 by decide)
  | 9 => (show 0 ≤ (0 : Int) ∧ (0 : Int) < 18446744073709551616 by decide)
  | 10 => (show 0 ≤ (0 : Int) ∧ (0 : Int) < 18446744073709551616 by decide)
  | 11 => (show 0 ≤ (0 : Int) ∧ (0 : Int) < 4294967296 by decide)
  | 12 => (show 0 ≤ (0 : Int) ∧ (0 : Int) < 65536 by decide)
  | 13 => (show 0 ≤ (0 : Int) ∧ (0 : Int) < 65536 by decide)
  | 14 => (show 0 ≤ (0 : Int) ∧ (0 : Int) < 18446744073709551616 by decide)
  | _ + 15 => (show 0 ≤ (0 : Int) ∧ (0 : Int) < 1 by decide)
theorem ok_rdT {e : Nat → Int} (he : ∀ i, 0 ≤ e i ∧ e i < 256) : okT (rdT e)
  | 0 => num_eight he 0
  | 1 => num_eight he 8
  | 2 => num_eight he 16
  | 3 => num_eight he 24
  | 4 => num_eight he 32
  | 5 => num_eight he 40
  | 6 => num_eight he 48
  | 7 => num_eight he 56
  | 8 => num_eight he 64
  | 9 => num_eight he 72
  | 10 => num_eight he 80
  | 11 => num_four he 88
  | 12 => num_four he 92
  | 13 => num_two he 96
  | 14 => num_two he 98
  | 15 => num_eight he 100
  | _ + 16 => (show 0 ≤ (0 : Int) ∧ (0 : Int) < 1 by decide)
theorem ok_zeroT : okT (fun _ => 0)
  | 0 => (show 0 ≤ (0 : Int) ∧ (0 : Int) < 18446744073709551616 by decide)
  | 1 => (show 0 ≤ (0 : Int) ∧ (0 : Int) < 18446744073709551616 by decide)
  | 2 => (show 0 ≤ (0 : Int) ∧ (0 : Int) < 18446744073709551616 by decide)
  | 3 => (show 0 ≤ (0 : Int) ∧ (0 : Int) < 18446744073709551616 by decide)
  | 4 => (show 0 ≤ (0 : Int) ∧ (0 : Int) < 18446744073709551616 by decide)
  | 5 => (show 0 ≤ (0 : Int) ∧ (0 : Int) < 18446744073709551616 by decide)
  | 6 => (show 0 ≤ (0 : Int) ∧ (0 : Int) < 18446744073709551616 by decide)
  | 7 => (show 0 ≤ (0 : Int) ∧ (0 : Int) < 18446744073709551616 by decide)
  | 8 => (show 0 ≤ (0 : Int) ∧ (0 : Int) < 18446744073709551616 by decide)
  | 9 => (show 0 ≤ (0 : Int) ∧ (0 : Int) < 18446744073709551616 by decide)
  | 10 => (show 0 ≤ (0 : Int) ∧ (0 : Int) < 18446744073709551616 by decide)
  | 11 => (show 0 ≤ (0 : Int) ∧ (0 : Int) < 4294967296 by decide)
  | 12 => (show 0 ≤ (0 : Int) ∧ (0 : Int) < 4294967296 by decide)
  | 13 => (show 0 ≤ (0 : Int) ∧ (0 : Int) < 65536 by decide)
  | 14 => (show 0 ≤ (0 : Int) ∧ (0 : Int) < 65536 by decide)
  | 15 => (show 0 ≤ (0 : Int) ∧ (0 : Int) < 18446744073709551616 by decide)
  | _ + 16 => (show 0 ≤ (0 : Int) ∧ (0 : Int) < 1 by decide)
/-- rows that were read are the bytes behind the head -/
theorem rows_back {S : Nat} {e : Nat → Int} {h : Nat} {f : Nat → Nat → Int} {q : Nat} (hS : 0 < S) (hf : ∀ i, i < q → ∀ j, j < S → f i j = e (h + i * S + j)) : ∀ j, j < q * S → rowsF S f j = e (h + j) := by
  intro j hj
  have h1 : j / S < q := (Nat.div_lt_iff_lt_mul hS).2 hj
  have h2 := hf (j / S) h1 (j % S) (Nat.mod_lt _ hS)
  unfold rowsF
  rw [h2]
  congr 1
  have := Nat.div_add_mod j S
  rw [Nat.mul_comm] at this
  omega
end Go.Proofs.Ytncampbmnbhikaa
