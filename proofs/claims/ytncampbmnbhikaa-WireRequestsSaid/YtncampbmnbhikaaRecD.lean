/-
  The bytes of accounts, transfers, balances, filters and results: the program's, walked.
-/
import Derived.Test.YtncampbmnbhikaaRecC
namespace Go.Proofs.Ytncampbmnbhikaa
set_option linter.unusedVariables false
set_option linter.unusedSimpArgs false
open Go.RowKit

/-- the bytes of PutFilter's argument -/
def putFilterD (xa xb xc xd xe xf : Int) : Nat → Int := (cat (cat (cat (cat (wcat (fun _ => 0) 0 (fun i => [xa].getD i 0) (fun i => [xb].getD i 0) 1) 16 (nb 8 xc)) 24 (nb 8 xd)) 32 (nb 4 xe)) 36 (nb 4 xf))
set_option maxRecDepth 8000 in
set_option maxHeartbeats 4000000 in
theorem putFilter_any (xa xb xc xd xe xf : Int) (ha : 0 ≤ xa ∧ xa < 18446744073709551616) (hb : 0 ≤ xb ∧ xb < 18446744073709551616) (hc : 0 ≤ xc ∧ xc < 18446744073709551616) (hd : 0 ≤ xd ∧ xd < 18446744073709551616) (he : 0 ≤ xe ∧ xe < 4294967296) (hf : 0 ≤ xf ∧ xf < 4294967296) (w : World) : Calls Try.prog 46 #[.agg #[.int .u64 xa, .int .u64 xb, .int .u64 xc, .int .u64 xd, .int .u32 xe, .int .u32 xf]] w fun r w' => ∃ v', r = .returned v' ∧ OwnB w' w.heap.size v' 40 (putFilterD xa xb xc xd xe xf) ∧ Below w.heap.size w w' := by
  go_enter Try.func46, Try.ntmps46
  go_wp2_with fail
  have f_a : Blk (w.alloc (.cells #[.int .u64 xa, .int .u64 xb, .int .u64 xc, .int .u64 xd, .int .u32 xe, .int .u32 xf] 44)) w.heap.size 44 #[.int .u64 xa, .int .u64 xb, .int .u64 xc, .int .u64 xd, .int .u32 xe, .int .u32 xf] := Blk.new _ _ _
  have hw0 : Below w.heap.size w (w.alloc (.cells #[.int .u64 xa, .int .u64 xb, .int .u64 xc, .int .u64 xd, .int .u32 xe, .int .u32 xf] 44)) := bel_alloc (Below.refl _ _) _
  have hsl : ∀ X : World, X.heap.size = w.heap.size + 1 → SlIs (X.alloc (.cells #[.int .u64 xa, .int .u64 xb] 42)) (some ⟨w.heap.size + 1, 0, none⟩) (1 * 2) (pV (fun i => [xa].getD i 0) (fun i => [xb].getD i 0)) := fun X hX => SlIs.row (rowIs_of (n := 2) hX.symm rfl (fun i hi => by rcases (by omega : i = 0 ∨ i = 1) with rfl | rfl <;> rfl)) (Nat.le_refl _)
  have hus : ∀ i, i < 1 → Wd ((fun i => [xa].getD i 0) i) ∧ Wd ((fun i => [xb].getD i 0) i) := fun i hi => by
      rcases (by omega : i = 0 ∨ i = 0) with rfl | rfl
      · exact ⟨ha, hb⟩
      · exact ⟨ha, hb⟩
  replace hsl := Lib.hid hsl
  have a0 := (f_a).cell 0
  have a1 := (f_a).cell 1
  have a2 := (f_a).cell 2
  have a3 := (f_a).cell 3
  have a4 := (f_a).cell 4
  have a5 := (f_a).cell 5
  have af0 := (f_a).frozen 0
  have af1 := (f_a).frozen 1
  have af2 := (f_a).frozen 2
  have af3 := (f_a).frozen 3
  have af4 := (f_a).frozen 4
  have af5 := (f_a).frozen 5
  have al := (f_a).lt
  go_region_held3 (fun w' => w'.cell? ⟨w.heap.size, 0, none⟩ = some (.int .u64 xa) ∧ w'.cell? ⟨w.heap.size, 1, none⟩ = some (.int .u64 xb) ∧ w'.cell? ⟨w.heap.size, 2, none⟩ = some (.int .u64 xc) ∧ w'.cell? ⟨w.heap.size, 3, none⟩ = some (.int .u64 xd) ∧ w'.cell? ⟨w.heap.size, 4, none⟩ = some (.int .u32 xe) ∧ w'.cell? ⟨w.heap.size, 5, none⟩ = some (.int .u32 xf))
      (first | ((try go_split_ands); refine ⟨?_, ?_, ?_, ?_, ?_, ?_⟩ <;> first | assumption | (simp [go_sem]; done) | exact keepc (bel_alloc (Below.refl _ _) _) (by assumption) | exact keepbb hb_3 (by dsimp only; omega) (by assumption) | exact keepbb hb_2 (by dsimp only; omega) (by assumption) | exact keepbb hb_1 (by dsimp only; omega) (by assumption)))
      (first
        | (go_at_call 54; (with_reducible refine (wides_any (.slice none 0 0) 0 (fun _ => 0) (some ⟨w.heap.size + 1, 0, none⟩) 1 1 (w.heap.size + 1 + 1) (fun i => [xa].getD i 0) (fun i => [xb].getD i 0) hus (by omega) (by omega) _ (by simp) (OwnB.nil _ _ _) _ (Below.refl _ _) (by simp) (slis_drew (hsl.out _ (by simp)))).mono ?_); rintro e w_1 ⟨v_1, rfl, ho_1, hb_1⟩; have sz_1 : (w.heap.size + 1 + 1) ≤ w_1.heap.size := belb_size hb_1 (by simp))
        | (go_at_call 55; (with_reducible refine (put64_at _ _ _ xc 8 8 rfl (w.heap.size + 1 + 1) hc (by omega) (by omega) _ sz_1 ho_1).mono ?_); rintro e w_2 ⟨v_2, rfl, ho_2, hb_2⟩; have sz_2 := belb_size hb_2 sz_1)
        | (go_at_call 55; (with_reducible refine (put64_at _ _ _ xd 8 8 rfl (w.heap.size + 1 + 1) hd (by omega) (by omega) _ sz_2 ho_2).mono ?_); rintro e w_3 ⟨v_3, rfl, ho_3, hb_3⟩; have sz_3 := belb_size hb_3 sz_2))
  clear a0 a1 a2 a3 a4 a5 af0 af1 af2 af3 af4 af5 al
  have hw_3 : Below w.heap.size w w_3 := by
      have hb0 : w.heap.size ≤ (w.heap.size + 1 + 1) := by omega
      refine Below.trans ?_ (hb_3.mono hb0)
      refine Below.trans ?_ (hb_2.mono hb0)
      refine Below.trans ?_ (hb_1.mono hb0)
      (repeat (first | exact Below.refl _ _ | assumption | refine below_drewN ?_ _ | refine bel_grow ?_ _ | refine Below.drew ?_ | refine bel_alloc ?_ _ | refine bel_set ?_ (by first | exact Nat.le_refl _ | (simp; done) | (simp; omega) | omega) _ | refine bel_trans ?_ (by assumption)))
  have f_b : Blk w_3 w.heap.size 44 #[.int .u64 xa, .int .u64 xb, .int .u64 xc, .int .u64 xd, .int .u32 xe, .int .u32 xf] := by
      refine Blk.lowb ?_ hb_3 (by omega)
      refine Blk.lowb ?_ hb_2 (by omega)
      refine Blk.lowb ?_ hb_1 (by omega)
      (repeat (first | with_reducible assumption | (with_reducible refine Blk.new' ?_; first | with_reducible rfl | (simp; done)) | with_reducible refine Blk.alloc ?_ _ | with_reducible refine Blk.grow ?_ _ | with_reducible refine Blk.drew ?_ | with_reducible refine Blk.drewN ?_ _ | (with_reducible refine Blk.far ?_ (by first | (dsimp only; omega) | (simp; omega)) _) | (with_reducible apply Blk.two) | (with_reducible refine Blk.set' ?_ _ _ ?_) | (with_reducible rfl) | rfl))
  clear f_a hw0
  have f_a := f_b
  clear f_b hb_1 hb_2 hb_3
  go_wp2_with fail
  have a0 := (f_a).cell 0
  have a1 := (f_a).cell 1
  have a2 := (f_a).cell 2
  have a3 := (f_a).cell 3
  have a4 := (f_a).cell 4
  have a5 := (f_a).cell 5
  have af0 := (f_a).frozen 0
  have af1 := (f_a).frozen 1
  have af2 := (f_a).frozen 2
  have af3 := (f_a).frozen 3
  have af4 := (f_a).frozen 4
  have af5 := (f_a).frozen 5
  have al := (f_a).lt
  go_region_held3 (fun w' => w'.cell? ⟨w.heap.size, 0, none⟩ = some (.int .u64 xa) ∧ w'.cell? ⟨w.heap.size, 1, none⟩ = some (.int .u64 xb) ∧ w'.cell? ⟨w.heap.size, 2, none⟩ = some (.int .u64 xc) ∧ w'.cell? ⟨w.heap.size, 3, none⟩ = some (.int .u64 xd) ∧ w'.cell? ⟨w.heap.size, 4, none⟩ = some (.int .u32 xe) ∧ w'.cell? ⟨w.heap.size, 5, none⟩ = some (.int .u32 xf))
      (first | ((try go_split_ands); refine ⟨?_, ?_, ?_, ?_, ?_, ?_⟩ <;> first | assumption | (simp [go_sem]; done) | exact keepc (bel_alloc (Below.refl _ _) _) (by assumption) | exact keepbb hb_5 (by dsimp only; omega) (by assumption) | exact keepbb hb_4 (by dsimp only; omega) (by assumption)))
      (first
        | (go_at_call 53; (with_reducible refine (put32_at _ _ _ xe 4 4 rfl (w.heap.size + 1 + 1) he (by omega) (by omega) _ (belb_drew sz_3) (OwnB.drew ho_3)).mono ?_); rintro e w_4 ⟨v_4, rfl, ho_4, hb_4⟩; have sz_4 := belb_size hb_4 sz_3)
        | (go_at_call 53; (with_reducible refine (put32_at _ _ _ xf 4 4 rfl (w.heap.size + 1 + 1) hf (by omega) (by omega) _ sz_4 ho_4).mono ?_); rintro e w_5 ⟨v_5, rfl, ho_5, hb_5⟩; have sz_5 := belb_size hb_5 sz_4))
  clear a0 a1 a2 a3 a4 a5 af0 af1 af2 af3 af4 af5 al
  have hw_5 : Below w.heap.size w w_5 := by
      have hb0 : w.heap.size ≤ (w.heap.size + 1 + 1) := by omega
      refine Below.trans ?_ (hb_5.mono hb0)
      refine Below.trans ?_ (hb_4.mono hb0)
      (repeat (first | exact Below.refl _ _ | assumption | refine below_drewN ?_ _ | refine bel_grow ?_ _ | refine Below.drew ?_ | refine bel_alloc ?_ _ | refine bel_set ?_ (by first | exact Nat.le_refl _ | (simp; done) | (simp; omega) | omega) _ | refine bel_trans ?_ (by assumption)))
  have f_b : Blk w_5 w.heap.size 44 #[.int .u64 xa, .int .u64 xb, .int .u64 xc, .int .u64 xd, .int .u32 xe, .int .u32 xf] := by
      refine Blk.lowb ?_ hb_5 (by omega)
      refine Blk.lowb ?_ hb_4 (by omega)
      (repeat (first | with_reducible assumption | (with_reducible refine Blk.new' ?_; first | with_reducible rfl | (simp; done)) | with_reducible refine Blk.alloc ?_ _ | with_reducible refine Blk.grow ?_ _ | with_reducible refine Blk.drew ?_ | with_reducible refine Blk.drewN ?_ _ | (with_reducible refine Blk.far ?_ (by first | (dsimp only; omega) | (simp; omega)) _) | (with_reducible apply Blk.two) | (with_reducible refine Blk.set' ?_ _ _ ?_) | (with_reducible rfl) | rfl))
  clear f_a hw_3
  have f_a := f_b
  clear f_b hb_4 hb_5
  go_wp2_with fail
  go_ret
  exact ⟨_, rfl, (OwnB.base (ho_5.cast (by omega) (fun _ _ => rfl)) (by omega)), hw_5⟩

/-- the bytes of PutResult's argument -/
def putResultD (xa xb : Int) : Nat → Int := (cat (cat (fun _ => 0) 0 (nb 4 xa)) 4 (nb 4 xb))
set_option maxRecDepth 8000 in
set_option maxHeartbeats 4000000 in
theorem putResult_any (xa xb : Int) (ha : 0 ≤ xa ∧ xa < 4294967296) (hb : 0 ≤ xb ∧ xb < 4294967296) (w : World) : Calls Try.prog 19 #[.agg #[.int .u32 xa, .int .u32 xb]] w fun r w' => ∃ v', r = .returned v' ∧ OwnB w' w.heap.size v' 8 (putResultD xa xb) ∧ Below w.heap.size w w' := by
  go_enter Try.func19, Try.ntmps19
  go_wp2_with fail
  have f_a : Blk (w.alloc (.cells #[.int .u32 xa, .int .u32 xb] 58)) w.heap.size 58 #[.int .u32 xa, .int .u32 xb] := Blk.new _ _ _
  have hw0 : Below w.heap.size w (w.alloc (.cells #[.int .u32 xa, .int .u32 xb] 58)) := bel_alloc (Below.refl _ _) _
  have a0 := (f_a).cell 0
  have a1 := (f_a).cell 1
  have af0 := (f_a).frozen 0
  have af1 := (f_a).frozen 1
  have al := (f_a).lt
  go_region_held3 (fun w' => w'.cell? ⟨w.heap.size, 0, none⟩ = some (.int .u32 xa) ∧ w'.cell? ⟨w.heap.size, 1, none⟩ = some (.int .u32 xb))
      (first | ((try go_split_ands); refine ⟨?_, ?_⟩ <;> first | assumption | (simp [go_sem]; done) | exact keepc (bel_alloc (Below.refl _ _) _) (by assumption) | exact keepbb hb_2 (by dsimp only; omega) (by assumption) | exact keepbb hb_1 (by dsimp only; omega) (by assumption)))
      (first
        | (go_at_call 53; (with_reducible refine (put32_at _ _ _ xa 4 4 rfl (w.heap.size + 1) ha (by omega) (by omega) _ (by simp) (OwnB.nil _ _ (fun _ => 0))).mono ?_); rintro e w_1 ⟨v_1, rfl, ho_1, hb_1⟩; have sz_1 : (w.heap.size + 1) ≤ w_1.heap.size := belb_size hb_1 (by simp))
        | (go_at_call 52; (with_reducible refine (putV_at _ _ _ xb 4 4 rfl (w.heap.size + 1) hb (by omega) (by omega) _ sz_1 ho_1).mono ?_); rintro e w_2 ⟨v_2, rfl, ho_2, hb_2⟩; have sz_2 := belb_size hb_2 sz_1))
  clear a0 a1 af0 af1 al
  have hw_2 : Below w.heap.size w w_2 := by
      have hb0 : w.heap.size ≤ (w.heap.size + 1) := by omega
      refine Below.trans ?_ (hb_2.mono hb0)
      refine Below.trans ?_ (hb_1.mono hb0)
      (repeat (first | exact Below.refl _ _ | assumption | refine below_drewN ?_ _ | refine bel_grow ?_ _ | refine Below.drew ?_ | refine bel_alloc ?_ _ | refine bel_set ?_ (by first | exact Nat.le_refl _ | (simp; done) | (simp; omega) | omega) _ | refine bel_trans ?_ (by assumption)))
  have f_b : Blk w_2 w.heap.size 58 #[.int .u32 xa, .int .u32 xb] := by
      refine Blk.lowb ?_ hb_2 (by omega)
      refine Blk.lowb ?_ hb_1 (by omega)
      (repeat (first | with_reducible assumption | (with_reducible refine Blk.new' ?_; first | with_reducible rfl | (simp; done)) | with_reducible refine Blk.alloc ?_ _ | with_reducible refine Blk.grow ?_ _ | with_reducible refine Blk.drew ?_ | with_reducible refine Blk.drewN ?_ _ | (with_reducible refine Blk.far ?_ (by first | (dsimp only; omega) | (simp; omega)) _) | (with_reducible apply Blk.two) | (with_reducible refine Blk.set' ?_ _ _ ?_) | (with_reducible rfl) | rfl))
  clear f_a hw0
  have f_a := f_b
  clear f_b hb_1 hb_2
  go_wp2_with fail
  go_ret
  exact ⟨_, rfl, (OwnB.base (ho_2.cast (by omega) (fun _ _ => rfl)) (by omega)), hw_2⟩

/-- the bytes of PutBalance's argument -/
def putBalanceD (xp1 xp2 xq1 xq2 xr1 xr2 xs1 xs2 xst : Int) : Nat → Int := (cat (wcat (fun _ => 0) 0 (fun i => [xp1, xq1, xr1, xs1].getD i 0) (fun i => [xp2, xq2, xr2, xs2].getD i 0) 4) 64 (nb 8 xst))
set_option maxRecDepth 8000 in
set_option maxHeartbeats 4000000 in
theorem putBalance_any (xp1 xp2 xq1 xq2 xr1 xr2 xs1 xs2 xst : Int) (hp1 : 0 ≤ xp1 ∧ xp1 < 18446744073709551616) (hp2 : 0 ≤ xp2 ∧ xp2 < 18446744073709551616) (hq1 : 0 ≤ xq1 ∧ xq1 < 18446744073709551616) (hq2 : 0 ≤ xq2 ∧ xq2 < 18446744073709551616) (hr1 : 0 ≤ xr1 ∧ xr1 < 18446744073709551616) (hr2 : 0 ≤ xr2 ∧ xr2 < 18446744073709551616) (hs1 : 0 ≤ xs1 ∧ xs1 < 18446744073709551616) (hs2 : 0 ≤ xs2 ∧ xs2 < 18446744073709551616) (hst : 0 ≤ xst ∧ xst < 18446744073709551616) (w : World) : Calls Try.prog 25 #[.agg #[.int .u64 xp1, .int .u64 xp2, .int .u64 xq1, .int .u64 xq2, .int .u64 xr1, .int .u64 xr2, .int .u64 xs1, .int .u64 xs2, .int .u64 xst]] w fun r w' => ∃ v', r = .returned v' ∧ OwnB w' w.heap.size v' 72 (putBalanceD xp1 xp2 xq1 xq2 xr1 xr2 xs1 xs2 xst) ∧ Below w.heap.size w w' := by
  go_enter Try.func25, Try.ntmps25
  go_wp2_with fail
  have f_a : Blk (w.alloc (.cells #[.int .u64 xp1, .int .u64 xp2, .int .u64 xq1, .int .u64 xq2, .int .u64 xr1, .int .u64 xr2, .int .u64 xs1, .int .u64 xs2, .int .u64 xst] 71)) w.heap.size 71 #[.int .u64 xp1, .int .u64 xp2, .int .u64 xq1, .int .u64 xq2, .int .u64 xr1, .int .u64 xr2, .int .u64 xs1, .int .u64 xs2, .int .u64 xst] := Blk.new _ _ _
  have hw0 : Below w.heap.size w (w.alloc (.cells #[.int .u64 xp1, .int .u64 xp2, .int .u64 xq1, .int .u64 xq2, .int .u64 xr1, .int .u64 xr2, .int .u64 xs1, .int .u64 xs2, .int .u64 xst] 71)) := bel_alloc (Below.refl _ _) _
  have hsl : ∀ X : World, X.heap.size = w.heap.size + 1 → SlIs (X.alloc (.cells #[.int .u64 xp1, .int .u64 xp2, .int .u64 xq1, .int .u64 xq2, .int .u64 xr1, .int .u64 xr2, .int .u64 xs1, .int .u64 xs2] 42)) (some ⟨w.heap.size + 1, 0, none⟩) (4 * 2) (pV (fun i => [xp1, xq1, xr1, xs1].getD i 0) (fun i => [xp2, xq2, xr2, xs2].getD i 0)) := fun X hX => SlIs.row (rowIs_of (n := 8) hX.symm rfl (fun i hi => by rcases (by omega : i = 0 ∨ i = 1 ∨ i = 2 ∨ i = 3 ∨ i = 4 ∨ i = 5 ∨ i = 6 ∨ i = 7) with rfl | rfl | rfl | rfl | rfl | rfl | rfl | rfl <;> rfl)) (Nat.le_refl _)
  have hus : ∀ i, i < 4 → Wd ((fun i => [xp1, xq1, xr1, xs1].getD i 0) i) ∧ Wd ((fun i => [xp2, xq2, xr2, xs2].getD i 0) i) := fun i hi => by
      rcases (by omega : i = 0 ∨ i = 1 ∨ i = 2 ∨ i = 3) with rfl | rfl | rfl | rfl
      · exact ⟨hp1, hp2⟩
      · exact ⟨hq1, hq2⟩
      · exact ⟨hr1, hr2⟩
      · exact ⟨hs1, hs2⟩
  replace hsl := Lib.hid hsl
  have a0 := (f_a).cell 0
  have a1 := (f_a).cell 1
  have a2 := (f_a).cell 2
  have a3 := (f_a).cell 3
  have a4 := (f_a).cell 4
  have a5 := (f_a).cell 5
  have a6 := (f_a).cell 6
  have a7 := (f_a).cell 7
  have a8 := (f_a).cell 8
  have af0 := (f_a).frozen 0
  have af1 := (f_a).frozen 1
  have af2 := (f_a).frozen 2
  have af3 := (f_a).frozen 3
  have af4 := (f_a).frozen 4
  have af5 := (f_a).frozen 5
  have af6 := (f_a).frozen 6
  have af7 := (f_a).frozen 7
  have af8 := (f_a).frozen 8
  have al := (f_a).lt
  go_region_held3 (fun w' => w'.cell? ⟨w.heap.size, 0, none⟩ = some (.int .u64 xp1) ∧ w'.cell? ⟨w.heap.size, 1, none⟩ = some (.int .u64 xp2) ∧ w'.cell? ⟨w.heap.size, 2, none⟩ = some (.int .u64 xq1) ∧ w'.cell? ⟨w.heap.size, 3, none⟩ = some (.int .u64 xq2) ∧ w'.cell? ⟨w.heap.size, 4, none⟩ = some (.int .u64 xr1) ∧ w'.cell? ⟨w.heap.size, 5, none⟩ = some (.int .u64 xr2) ∧ w'.cell? ⟨w.heap.size, 6, none⟩ = some (.int .u64 xs1) ∧ w'.cell? ⟨w.heap.size, 7, none⟩ = some (.int .u64 xs2) ∧ w'.cell? ⟨w.heap.size, 8, none⟩ = some (.int .u64 xst))
      (first | ((try go_split_ands); refine ⟨?_, ?_, ?_, ?_, ?_, ?_, ?_, ?_, ?_⟩ <;> first | assumption | (simp [go_sem]; done) | exact keepc (bel_alloc (Below.refl _ _) _) (by assumption) | exact keepbb hb_2 (by dsimp only; omega) (by assumption) | exact keepbb hb_1 (by dsimp only; omega) (by assumption)))
      (first
        | (go_at_call 54; (with_reducible refine (wides_any (.slice none 0 0) 0 (fun _ => 0) (some ⟨w.heap.size + 1, 0, none⟩) 4 4 (w.heap.size + 1 + 1) (fun i => [xp1, xq1, xr1, xs1].getD i 0) (fun i => [xp2, xq2, xr2, xs2].getD i 0) hus (by omega) (by omega) _ (by simp) (OwnB.nil _ _ _) _ (Below.refl _ _) (by simp) (slis_drew (hsl.out _ (by simp)))).mono ?_); rintro e w_1 ⟨v_1, rfl, ho_1, hb_1⟩; have sz_1 : (w.heap.size + 1 + 1) ≤ w_1.heap.size := belb_size hb_1 (by simp))
        | (go_at_call 55; (with_reducible refine (put64_at _ _ _ xst 8 8 rfl (w.heap.size + 1 + 1) hst (by omega) (by omega) _ sz_1 ho_1).mono ?_); rintro e w_2 ⟨v_2, rfl, ho_2, hb_2⟩; have sz_2 := belb_size hb_2 sz_1))
  clear a0 a1 a2 a3 a4 a5 a6 a7 a8 af0 af1 af2 af3 af4 af5 af6 af7 af8 al
  have hw_2 : Below w.heap.size w w_2 := by
      have hb0 : w.heap.size ≤ (w.heap.size + 1 + 1) := by omega
      refine Below.trans ?_ (hb_2.mono hb0)
      refine Below.trans ?_ (hb_1.mono hb0)
      (repeat (first | exact Below.refl _ _ | assumption | refine below_drewN ?_ _ | refine bel_grow ?_ _ | refine Below.drew ?_ | refine bel_alloc ?_ _ | refine bel_set ?_ (by first | exact Nat.le_refl _ | (simp; done) | (simp; omega) | omega) _ | refine bel_trans ?_ (by assumption)))
  have f_b : Blk w_2 w.heap.size 71 #[.int .u64 xp1, .int .u64 xp2, .int .u64 xq1, .int .u64 xq2, .int .u64 xr1, .int .u64 xr2, .int .u64 xs1, .int .u64 xs2, .int .u64 xst] := by
      refine Blk.lowb ?_ hb_2 (by omega)
      refine Blk.lowb ?_ hb_1 (by omega)
      (repeat (first | with_reducible assumption | (with_reducible refine Blk.new' ?_; first | with_reducible rfl | (simp; done)) | with_reducible refine Blk.alloc ?_ _ | with_reducible refine Blk.grow ?_ _ | with_reducible refine Blk.drew ?_ | with_reducible refine Blk.drewN ?_ _ | (with_reducible refine Blk.far ?_ (by first | (dsimp only; omega) | (simp; omega)) _) | (with_reducible apply Blk.two) | (with_reducible refine Blk.set' ?_ _ _ ?_) | (with_reducible rfl) | rfl))
  clear f_a hw0
  have f_a := f_b
  clear f_b hb_1 hb_2
  go_wp2_with fail
  go_ret
  exact ⟨_, rfl, (OwnB.base (ho_2.cast (by omega) (fun _ _ => rfl)) (by omega)), hw_2⟩

/-- the bytes of PutAccount's argument -/
def putAccountD (xi1 xi2 xp1 xp2 xq1 xq2 xr1 xr2 xs1 xs2 xtg xlg xcd xfl xst : Int) : Nat → Int := (cat (cat (cat (cat (cat (wcat (fun _ => 0) 0 (fun i => [xi1, xp1, xq1, xr1, xs1].getD i 0) (fun i => [xi2, xp2, xq2, xr2, xs2].getD i 0) 5) 80 (nb 8 xtg)) 88 (nb 4 xlg)) 92 (nb 2 xcd)) 94 (nb 2 xfl)) 96 (nb 8 xst))
set_option maxRecDepth 8000 in
set_option maxHeartbeats 4000000 in
theorem putAccount_any (xi1 xi2 xp1 xp2 xq1 xq2 xr1 xr2 xs1 xs2 xtg xlg xcd xfl xst : Int) (hi1 : 0 ≤ xi1 ∧ xi1 < 18446744073709551616) (hi2 : 0 ≤ xi2 ∧ xi2 < 18446744073709551616) (hp1 : 0 ≤ xp1 ∧ xp1 < 18446744073709551616) (hp2 : 0 ≤ xp2 ∧ xp2 < 18446744073709551616) (hq1 : 0 ≤ xq1 ∧ xq1 < 18446744073709551616) (hq2 : 0 ≤ xq2 ∧ xq2 < 18446744073709551616) (hr1 : 0 ≤ xr1 ∧ xr1 < 18446744073709551616) (hr2 : 0 ≤ xr2 ∧ xr2 < 18446744073709551616) (hs1 : 0 ≤ xs1 ∧ xs1 < 18446744073709551616) (hs2 : 0 ≤ xs2 ∧ xs2 < 18446744073709551616) (htg : 0 ≤ xtg ∧ xtg < 18446744073709551616) (hlg : 0 ≤ xlg ∧ xlg < 4294967296) (hcd : 0 ≤ xcd ∧ xcd < 65536) (hfl : 0 ≤ xfl ∧ xfl < 65536) (hst : 0 ≤ xst ∧ xst < 18446744073709551616) (w : World) : Calls Try.prog 21 #[.agg #[.int .u64 xi1, .int .u64 xi2, .int .u64 xp1, .int .u64 xp2, .int .u64 xq1, .int .u64 xq2, .int .u64 xr1, .int .u64 xr2, .int .u64 xs1, .int .u64 xs2, .int .u64 xtg, .int .u32 xlg, .int .u16 xcd, .int .u16 xfl, .int .u64 xst]] w fun r w' => ∃ v', r = .returned v' ∧ OwnB w' w.heap.size v' 104 (putAccountD xi1 xi2 xp1 xp2 xq1 xq2 xr1 xr2 xs1 xs2 xtg xlg xcd xfl xst) ∧ Below w.heap.size w w' := by
  go_enter Try.func21, Try.ntmps21
  go_wp2_with fail
  have f_a : Blk (w.alloc (.cells #[.int .u64 xi1, .int .u64 xi2, .int .u64 xp1, .int .u64 xp2, .int .u64 xq1, .int .u64 xq2, .int .u64 xr1, .int .u64 xr2, .int .u64 xs1, .int .u64 xs2, .int .u64 xtg, .int .u32 xlg, .int .u16 xcd, .int .u16 xfl, .int .u64 xst] 63)) w.heap.size 63 #[.int .u64 xi1, .int .u64 xi2, .int .u64 xp1, .int .u64 xp2, .int .u64 xq1, .int .u64 xq2, .int .u64 xr1, .int .u64 xr2, .int .u64 xs1, .int .u64 xs2, .int .u64 xtg, .int .u32 xlg, .int .u16 xcd, .int .u16 xfl, .int .u64 xst] := Blk.new _ _ _
  have hw0 : Below w.heap.size w (w.alloc (.cells #[.int .u64 xi1, .int .u64 xi2, .int .u64 xp1, .int .u64 xp2, .int .u64 xq1, .int .u64 xq2, .int .u64 xr1, .int .u64 xr2, .int .u64 xs1, .int .u64 xs2, .int .u64 xtg, .int .u32 xlg, .int .u16 xcd, .int .u16 xfl, .int .u64 xst] 63)) := bel_alloc (Below.refl _ _) _
  have hsl : ∀ X : World, X.heap.size = w.heap.size + 1 → SlIs (X.alloc (.cells #[.int .u64 xi1, .int .u64 xi2, .int .u64 xp1, .int .u64 xp2, .int .u64 xq1, .int .u64 xq2, .int .u64 xr1, .int .u64 xr2, .int .u64 xs1, .int .u64 xs2] 42)) (some ⟨w.heap.size + 1, 0, none⟩) (5 * 2) (pV (fun i => [xi1, xp1, xq1, xr1, xs1].getD i 0) (fun i => [xi2, xp2, xq2, xr2, xs2].getD i 0)) := fun X hX => SlIs.row (rowIs_of (n := 10) hX.symm rfl (fun i hi => by rcases (by omega : i = 0 ∨ i = 1 ∨ i = 2 ∨ i = 3 ∨ i = 4 ∨ i = 5 ∨ i = 6 ∨ i = 7 ∨ i = 8 ∨ i = 9) with rfl | rfl | rfl | rfl | rfl | rfl | rfl | rfl | rfl | rfl <;> rfl)) (Nat.le_refl _)
  have hus : ∀ i, i < 5 → Wd ((fun i => [xi1, xp1, xq1, xr1, xs1].getD i 0) i) ∧ Wd ((fun i => [xi2, xp2, xq2, xr2, xs2].getD i 0) i) := fun i hi => by
      rcases (by omega : i = 0 ∨ i = 1 ∨ i = 2 ∨ i = 3 ∨ i = 4) with rfl | rfl | rfl | rfl | rfl
      · exact ⟨hi1, hi2⟩
      · exact ⟨hp1, hp2⟩
      · exact ⟨hq1, hq2⟩
      · exact ⟨hr1, hr2⟩
      · exact ⟨hs1, hs2⟩
  replace hsl := Lib.hid hsl
  refine (wides_any (.slice none 0 0) 0 (fun _ => 0) (some ⟨w.heap.size + 1, 0, none⟩) 5 5 (w.heap.size + 1 + 1) (fun i => [xi1, xp1, xq1, xr1, xs1].getD i 0) (fun i => [xi2, xp2, xq2, xr2, xs2].getD i 0) hus (by omega) (by omega) _ (by simp) (OwnB.nil _ _ _) _ (Below.refl _ _) (by simp) (hsl.out _ (by simp))).mono ?_
  rintro e w_1 ⟨v_1, rfl, ho_1, hb_1⟩
  have sz_1 : (w.heap.size + 1 + 1) ≤ w_1.heap.size := belb_size hb_1 (by simp)
  have hw_1 : Below w.heap.size w w_1 := by
      have hb0 : w.heap.size ≤ (w.heap.size + 1 + 1) := by omega
      refine Below.trans ?_ (hb_1.mono hb0)
      (repeat (first | exact Below.refl _ _ | assumption | refine below_drewN ?_ _ | refine bel_grow ?_ _ | refine Below.drew ?_ | refine bel_alloc ?_ _ | refine bel_set ?_ (by first | exact Nat.le_refl _ | (simp; done) | (simp; omega) | omega) _ | refine bel_trans ?_ (by assumption)))
  have f_b : Blk w_1 w.heap.size 63 #[.int .u64 xi1, .int .u64 xi2, .int .u64 xp1, .int .u64 xp2, .int .u64 xq1, .int .u64 xq2, .int .u64 xr1, .int .u64 xr2, .int .u64 xs1, .int .u64 xs2, .int .u64 xtg, .int .u32 xlg, .int .u16 xcd, .int .u16 xfl, .int .u64 xst] := by
      refine Blk.lowb ?_ hb_1 (by omega)
      (repeat (first | with_reducible assumption | (with_reducible refine Blk.new' ?_; first | with_reducible rfl | (simp; done)) | with_reducible refine Blk.alloc ?_ _ | with_reducible refine Blk.grow ?_ _ | with_reducible refine Blk.drew ?_ | with_reducible refine Blk.drewN ?_ _ | (with_reducible refine Blk.far ?_ (by first | (dsimp only; omega) | (simp; omega)) _) | (with_reducible apply Blk.two) | (with_reducible refine Blk.set' ?_ _ _ ?_) | (with_reducible rfl) | rfl))
  clear f_a hw0
  have f_a := f_b
  clear f_b hb_1
  go_wp2_with fail
  have a0 := (f_a).cell 0
  have a1 := (f_a).cell 1
  have a2 := (f_a).cell 2
  have a3 := (f_a).cell 3
  have a4 := (f_a).cell 4
  have a5 := (f_a).cell 5
  have a6 := (f_a).cell 6
  have a7 := (f_a).cell 7
  have a8 := (f_a).cell 8
  have a9 := (f_a).cell 9
  have a10 := (f_a).cell 10
  have a11 := (f_a).cell 11
  have a12 := (f_a).cell 12
  have a13 := (f_a).cell 13
  have a14 := (f_a).cell 14
  have af0 := (f_a).frozen 0
  have af1 := (f_a).frozen 1
  have af2 := (f_a).frozen 2
  have af3 := (f_a).frozen 3
  have af4 := (f_a).frozen 4
  have af5 := (f_a).frozen 5
  have af6 := (f_a).frozen 6
  have af7 := (f_a).frozen 7
  have af8 := (f_a).frozen 8
  have af9 := (f_a).frozen 9
  have af10 := (f_a).frozen 10
  have af11 := (f_a).frozen 11
  have af12 := (f_a).frozen 12
  have af13 := (f_a).frozen 13
  have af14 := (f_a).frozen 14
  have al := (f_a).lt
  go_region_held3 (fun w' => w'.cell? ⟨w.heap.size, 0, none⟩ = some (.int .u64 xi1) ∧ w'.cell? ⟨w.heap.size, 1, none⟩ = some (.int .u64 xi2) ∧ w'.cell? ⟨w.heap.size, 2, none⟩ = some (.int .u64 xp1) ∧ w'.cell? ⟨w.heap.size, 3, none⟩ = some (.int .u64 xp2) ∧ w'.cell? ⟨w.heap.size, 4, none⟩ = some (.int .u64 xq1) ∧ w'.cell? ⟨w.heap.size, 5, none⟩ = some (.int .u64 xq2) ∧ w'.cell? ⟨w.heap.size, 6, none⟩ = some (.int .u64 xr1) ∧ w'.cell? ⟨w.heap.size, 7, none⟩ = some (.int .u64 xr2) ∧ w'.cell? ⟨w.heap.size, 8, none⟩ = some (.int .u64 xs1) ∧ w'.cell? ⟨w.heap.size, 9, none⟩ = some (.int .u64 xs2) ∧ w'.cell? ⟨w.heap.size, 10, none⟩ = some (.int .u64 xtg) ∧ w'.cell? ⟨w.heap.size, 11, none⟩ = some (.int .u32 xlg) ∧ w'.cell? ⟨w.heap.size, 12, none⟩ = some (.int .u16 xcd) ∧ w'.cell? ⟨w.heap.size, 13, none⟩ = some (.int .u16 xfl) ∧ w'.cell? ⟨w.heap.size, 14, none⟩ = some (.int .u64 xst))
      (first | ((try go_split_ands); refine ⟨?_, ?_, ?_, ?_, ?_, ?_, ?_, ?_, ?_, ?_, ?_, ?_, ?_, ?_, ?_⟩ <;> first | assumption | (simp [go_sem]; done) | exact keepc (bel_alloc (Below.refl _ _) _) (by assumption) | exact keepbb hb_3 (by dsimp only; omega) (by assumption) | exact keepbb hb_2 (by dsimp only; omega) (by assumption)))
      (first
        | (go_at_call 55; (with_reducible refine (put64_at _ _ _ xtg 8 8 rfl (w.heap.size + 1 + 1) htg (by omega) (by omega) _ (belb_drew sz_1) (OwnB.drew ho_1)).mono ?_); rintro e w_2 ⟨v_2, rfl, ho_2, hb_2⟩; have sz_2 := belb_size hb_2 sz_1)
        | (go_at_call 53; (with_reducible refine (put32_at _ _ _ xlg 4 4 rfl (w.heap.size + 1 + 1) hlg (by omega) (by omega) _ sz_2 ho_2).mono ?_); rintro e w_3 ⟨v_3, rfl, ho_3, hb_3⟩; have sz_3 := belb_size hb_3 sz_2))
  clear a0 a1 a2 a3 a4 a5 a6 a7 a8 a9 a10 a11 a12 a13 a14 af0 af1 af2 af3 af4 af5 af6 af7 af8 af9 af10 af11 af12 af13 af14 al
  have hw_3 : Below w.heap.size w w_3 := by
      have hb0 : w.heap.size ≤ (w.heap.size + 1 + 1) := by omega
      refine Below.trans ?_ (hb_3.mono hb0)
      refine Below.trans ?_ (hb_2.mono hb0)
      (repeat (first | exact Below.refl _ _ | assumption | refine below_drewN ?_ _ | refine bel_grow ?_ _ | refine Below.drew ?_ | refine bel_alloc ?_ _ | refine bel_set ?_ (by first | exact Nat.le_refl _ | (simp; done) | (simp; omega) | omega) _ | refine bel_trans ?_ (by assumption)))
  have f_b : Blk w_3 w.heap.size 63 #[.int .u64 xi1, .int .u64 xi2, .int .u64 xp1, .int .u64 xp2, .int .u64 xq1, .int .u64 xq2, .int .u64 xr1, .int .u64 xr2, .int .u64 xs1, .int .u64 xs2, .int .u64 xtg, .int .u32 xlg, .int .u16 xcd, .int .u16 xfl, .int .u64 xst] := by
      refine Blk.lowb ?_ hb_3 (by omega)
      refine Blk.lowb ?_ hb_2 (by omega)
      (repeat (first | with_reducible assumption | (with_reducible refine Blk.new' ?_; first | with_reducible rfl | (simp; done)) | with_reducible refine Blk.alloc ?_ _ | with_reducible refine Blk.grow ?_ _ | with_reducible refine Blk.drew ?_ | with_reducible refine Blk.drewN ?_ _ | (with_reducible refine Blk.far ?_ (by first | (dsimp only; omega) | (simp; omega)) _) | (with_reducible apply Blk.two) | (with_reducible refine Blk.set' ?_ _ _ ?_) | (with_reducible rfl) | rfl))
  clear f_a hw_1
  have f_a := f_b
  clear f_b hb_2 hb_3
  go_wp2_with fail
  have a0 := (f_a).cell 0
  have a1 := (f_a).cell 1
  have a2 := (f_a).cell 2
  have a3 := (f_a).cell 3
  have a4 := (f_a).cell 4
  have a5 := (f_a).cell 5
  have a6 := (f_a).cell 6
  have a7 := (f_a).cell 7
  have a8 := (f_a).cell 8
  have a9 := (f_a).cell 9
  have a10 := (f_a).cell 10
  have a11 := (f_a).cell 11
  have a12 := (f_a).cell 12
  have a13 := (f_a).cell 13
  have a14 := (f_a).cell 14
  have af0 := (f_a).frozen 0
  have af1 := (f_a).frozen 1
  have af2 := (f_a).frozen 2
  have af3 := (f_a).frozen 3
  have af4 := (f_a).frozen 4
  have af5 := (f_a).frozen 5
  have af6 := (f_a).frozen 6
  have af7 := (f_a).frozen 7
  have af8 := (f_a).frozen 8
  have af9 := (f_a).frozen 9
  have af10 := (f_a).frozen 10
  have af11 := (f_a).frozen 11
  have af12 := (f_a).frozen 12
  have af13 := (f_a).frozen 13
  have af14 := (f_a).frozen 14
  have al := (f_a).lt
  go_region_held3 (fun w' => w'.cell? ⟨w.heap.size, 0, none⟩ = some (.int .u64 xi1) ∧ w'.cell? ⟨w.heap.size, 1, none⟩ = some (.int .u64 xi2) ∧ w'.cell? ⟨w.heap.size, 2, none⟩ = some (.int .u64 xp1) ∧ w'.cell? ⟨w.heap.size, 3, none⟩ = some (.int .u64 xp2) ∧ w'.cell? ⟨w.heap.size, 4, none⟩ = some (.int .u64 xq1) ∧ w'.cell? ⟨w.heap.size, 5, none⟩ = some (.int .u64 xq2) ∧ w'.cell? ⟨w.heap.size, 6, none⟩ = some (.int .u64 xr1) ∧ w'.cell? ⟨w.heap.size, 7, none⟩ = some (.int .u64 xr2) ∧ w'.cell? ⟨w.heap.size, 8, none⟩ = some (.int .u64 xs1) ∧ w'.cell? ⟨w.heap.size, 9, none⟩ = some (.int .u64 xs2) ∧ w'.cell? ⟨w.heap.size, 10, none⟩ = some (.int .u64 xtg) ∧ w'.cell? ⟨w.heap.size, 11, none⟩ = some (.int .u32 xlg) ∧ w'.cell? ⟨w.heap.size, 12, none⟩ = some (.int .u16 xcd) ∧ w'.cell? ⟨w.heap.size, 13, none⟩ = some (.int .u16 xfl) ∧ w'.cell? ⟨w.heap.size, 14, none⟩ = some (.int .u64 xst))
      (first | ((try go_split_ands); refine ⟨?_, ?_, ?_, ?_, ?_, ?_, ?_, ?_, ?_, ?_, ?_, ?_, ?_, ?_, ?_⟩ <;> first | assumption | (simp [go_sem]; done) | exact keepc (bel_alloc (Below.refl _ _) _) (by assumption) | exact keepbb hb_6 (by dsimp only; omega) (by assumption) | exact keepbb hb_5 (by dsimp only; omega) (by assumption) | exact keepbb hb_4 (by dsimp only; omega) (by assumption)))
      (first
        | (go_at_call 56; (with_reducible refine (put16_at _ _ _ xcd 2 2 rfl (w.heap.size + 1 + 1) hcd (by omega) (by omega) _ (belb_drew sz_3) (OwnB.drew ho_3)).mono ?_); rintro e w_4 ⟨v_4, rfl, ho_4, hb_4⟩; have sz_4 := belb_size hb_4 sz_3)
        | (go_at_call 56; (with_reducible refine (put16_at _ _ _ xfl 2 2 rfl (w.heap.size + 1 + 1) hfl (by omega) (by omega) _ sz_4 ho_4).mono ?_); rintro e w_5 ⟨v_5, rfl, ho_5, hb_5⟩; have sz_5 := belb_size hb_5 sz_4)
        | (go_at_call 55; (with_reducible refine (put64_at _ _ _ xst 8 8 rfl (w.heap.size + 1 + 1) hst (by omega) (by omega) _ sz_5 ho_5).mono ?_); rintro e w_6 ⟨v_6, rfl, ho_6, hb_6⟩; have sz_6 := belb_size hb_6 sz_5))
  clear a0 a1 a2 a3 a4 a5 a6 a7 a8 a9 a10 a11 a12 a13 a14 af0 af1 af2 af3 af4 af5 af6 af7 af8 af9 af10 af11 af12 af13 af14 al
  have hw_6 : Below w.heap.size w w_6 := by
      have hb0 : w.heap.size ≤ (w.heap.size + 1 + 1) := by omega
      refine Below.trans ?_ (hb_6.mono hb0)
      refine Below.trans ?_ (hb_5.mono hb0)
      refine Below.trans ?_ (hb_4.mono hb0)
      (repeat (first | exact Below.refl _ _ | assumption | refine below_drewN ?_ _ | refine bel_grow ?_ _ | refine Below.drew ?_ | refine bel_alloc ?_ _ | refine bel_set ?_ (by first | exact Nat.le_refl _ | (simp; done) | (simp; omega) | omega) _ | refine bel_trans ?_ (by assumption)))
  have f_b : Blk w_6 w.heap.size 63 #[.int .u64 xi1, .int .u64 xi2, .int .u64 xp1, .int .u64 xp2, .int .u64 xq1, .int .u64 xq2, .int .u64 xr1, .int .u64 xr2, .int .u64 xs1, .int .u64 xs2, .int .u64 xtg, .int .u32 xlg, .int .u16 xcd, .int .u16 xfl, .int .u64 xst] := by
      refine Blk.lowb ?_ hb_6 (by omega)
      refine Blk.lowb ?_ hb_5 (by omega)
      refine Blk.lowb ?_ hb_4 (by omega)
      (repeat (first | with_reducible assumption | (with_reducible refine Blk.new' ?_; first | with_reducible rfl | (simp; done)) | with_reducible refine Blk.alloc ?_ _ | with_reducible refine Blk.grow ?_ _ | with_reducible refine Blk.drew ?_ | with_reducible refine Blk.drewN ?_ _ | (with_reducible refine Blk.far ?_ (by first | (dsimp only; omega) | (simp; omega)) _) | (with_reducible apply Blk.two) | (with_reducible refine Blk.set' ?_ _ _ ?_) | (with_reducible rfl) | rfl))
  clear f_a hw_3
  have f_a := f_b
  clear f_b hb_4 hb_5 hb_6
  go_wp2_with fail
  go_ret
  exact ⟨_, rfl, (OwnB.base (ho_6.cast (by omega) (fun _ _ => rfl)) (by omega)), hw_6⟩

/-- the bytes of PutTransfer's argument -/
def putTransferD (xi1 xi2 xd1 xd2 xc1 xc2 xm1 xm2 xw1 xw2 xtg xto xlg xcd xfl xst : Int) : Nat → Int := (cat (cat (cat (cat (cat (cat (wcat (fun _ => 0) 0 (fun i => [xi1, xd1, xc1, xm1, xw1].getD i 0) (fun i => [xi2, xd2, xc2, xm2, xw2].getD i 0) 5) 80 (nb 8 xtg)) 88 (nb 4 xto)) 92 (nb 4 xlg)) 96 (nb 2 xcd)) 98 (nb 2 xfl)) 100 (nb 8 xst))
set_option maxRecDepth 8000 in
set_option maxHeartbeats 4000000 in
theorem putTransfer_any (xi1 xi2 xd1 xd2 xc1 xc2 xm1 xm2 xw1 xw2 xtg xto xlg xcd xfl xst : Int) (hi1 : 0 ≤ xi1 ∧ xi1 < 18446744073709551616) (hi2 : 0 ≤ xi2 ∧ xi2 < 18446744073709551616) (hd1 : 0 ≤ xd1 ∧ xd1 < 18446744073709551616) (hd2 : 0 ≤ xd2 ∧ xd2 < 18446744073709551616) (hc1 : 0 ≤ xc1 ∧ xc1 < 18446744073709551616) (hc2 : 0 ≤ xc2 ∧ xc2 < 18446744073709551616) (hm1 : 0 ≤ xm1 ∧ xm1 < 18446744073709551616) (hm2 : 0 ≤ xm2 ∧ xm2 < 18446744073709551616) (hw1 : 0 ≤ xw1 ∧ xw1 < 18446744073709551616) (hw2 : 0 ≤ xw2 ∧ xw2 < 18446744073709551616) (htg : 0 ≤ xtg ∧ xtg < 18446744073709551616) (hto : 0 ≤ xto ∧ xto < 4294967296) (hlg : 0 ≤ xlg ∧ xlg < 4294967296) (hcd : 0 ≤ xcd ∧ xcd < 65536) (hfl : 0 ≤ xfl ∧ xfl < 65536) (hst : 0 ≤ xst ∧ xst < 18446744073709551616) (w : World) : Calls Try.prog 23 #[.agg #[.int .u64 xi1, .int .u64 xi2, .int .u64 xd1, .int .u64 xd2, .int .u64 xc1, .int .u64 xc2, .int .u64 xm1, .int .u64 xm2, .int .u64 xw1, .int .u64 xw2, .int .u64 xtg, .int .u32 xto, .int .u32 xlg, .int .u16 xcd, .int .u16 xfl, .int .u64 xst]] w fun r w' => ∃ v', r = .returned v' ∧ OwnB w' w.heap.size v' 108 (putTransferD xi1 xi2 xd1 xd2 xc1 xc2 xm1 xm2 xw1 xw2 xtg xto xlg xcd xfl xst) ∧ Below w.heap.size w w' := by
  go_enter Try.func23, Try.ntmps23
  go_wp2_with fail
  have f_a : Blk (w.alloc (.cells #[.int .u64 xi1, .int .u64 xi2, .int .u64 xd1, .int .u64 xd2, .int .u64 xc1, .int .u64 xc2, .int .u64 xm1, .int .u64 xm2, .int .u64 xw1, .int .u64 xw2, .int .u64 xtg, .int .u32 xto, .int .u32 xlg, .int .u16 xcd, .int .u16 xfl, .int .u64 xst] 67)) w.heap.size 67 #[.int .u64 xi1, .int .u64 xi2, .int .u64 xd1, .int .u64 xd2, .int .u64 xc1, .int .u64 xc2, .int .u64 xm1, .int .u64 xm2, .int .u64 xw1, .int .u64 xw2, .int .u64 xtg, .int .u32 xto, .int .u32 xlg, .int .u16 xcd, .int .u16 xfl, .int .u64 xst] := Blk.new _ _ _
  have hw0 : Below w.heap.size w (w.alloc (.cells #[.int .u64 xi1, .int .u64 xi2, .int .u64 xd1, .int .u64 xd2, .int .u64 xc1, .int .u64 xc2, .int .u64 xm1, .int .u64 xm2, .int .u64 xw1, .int .u64 xw2, .int .u64 xtg, .int .u32 xto, .int .u32 xlg, .int .u16 xcd, .int .u16 xfl, .int .u64 xst] 67)) := bel_alloc (Below.refl _ _) _
  have hsl : ∀ X : World, X.heap.size = w.heap.size + 1 → SlIs (X.alloc (.cells #[.int .u64 xi1, .int .u64 xi2, .int .u64 xd1, .int .u64 xd2, .int .u64 xc1, .int .u64 xc2, .int .u64 xm1, .int .u64 xm2, .int .u64 xw1, .int .u64 xw2] 42)) (some ⟨w.heap.size + 1, 0, none⟩) (5 * 2) (pV (fun i => [xi1, xd1, xc1, xm1, xw1].getD i 0) (fun i => [xi2, xd2, xc2, xm2, xw2].getD i 0)) := fun X hX => SlIs.row (rowIs_of (n := 10) hX.symm rfl (fun i hi => by rcases (by omega : i = 0 ∨ i = 1 ∨ i = 2 ∨ i = 3 ∨ i = 4 ∨ i = 5 ∨ i = 6 ∨ i = 7 ∨ i = 8 ∨ i = 9) with rfl | rfl | rfl | rfl | rfl | rfl | rfl | rfl | rfl | rfl <;> rfl)) (Nat.le_refl _)
  have hus : ∀ i, i < 5 → Wd ((fun i => [xi1, xd1, xc1, xm1, xw1].getD i 0) i) ∧ Wd ((fun i => [xi2, xd2, xc2, xm2, xw2].getD i 0) i) := fun i hi => by
      rcases (by omega : i = 0 ∨ i = 1 ∨ i = 2 ∨ i = 3 ∨ i = 4) with rfl | rfl | rfl | rfl | rfl
      · exact ⟨hi1, hi2⟩
      · exact ⟨hd1, hd2⟩
      · exact ⟨hc1, hc2⟩
      · exact ⟨hm1, hm2⟩
      · exact ⟨hw1, hw2⟩
  replace hsl := Lib.hid hsl
  refine (wides_any (.slice none 0 0) 0 (fun _ => 0) (some ⟨w.heap.size + 1, 0, none⟩) 5 5 (w.heap.size + 1 + 1) (fun i => [xi1, xd1, xc1, xm1, xw1].getD i 0) (fun i => [xi2, xd2, xc2, xm2, xw2].getD i 0) hus (by omega) (by omega) _ (by simp) (OwnB.nil _ _ _) _ (Below.refl _ _) (by simp) (hsl.out _ (by simp))).mono ?_
  rintro e w_1 ⟨v_1, rfl, ho_1, hb_1⟩
  have sz_1 : (w.heap.size + 1 + 1) ≤ w_1.heap.size := belb_size hb_1 (by simp)
  have hw_1 : Below w.heap.size w w_1 := by
      have hb0 : w.heap.size ≤ (w.heap.size + 1 + 1) := by omega
      refine Below.trans ?_ (hb_1.mono hb0)
      (repeat (first | exact Below.refl _ _ | assumption | refine below_drewN ?_ _ | refine bel_grow ?_ _ | refine Below.drew ?_ | refine bel_alloc ?_ _ | refine bel_set ?_ (by first | exact Nat.le_refl _ | (simp; done) | (simp; omega) | omega) _ | refine bel_trans ?_ (by assumption)))
  have f_b : Blk w_1 w.heap.size 67 #[.int .u64 xi1, .int .u64 xi2, .int .u64 xd1, .int .u64 xd2, .int .u64 xc1, .int .u64 xc2, .int .u64 xm1, .int .u64 xm2, .int .u64 xw1, .int .u64 xw2, .int .u64 xtg, .int .u32 xto, .int .u32 xlg, .int .u16 xcd, .int .u16 xfl, .int .u64 xst] := by
      refine Blk.lowb ?_ hb_1 (by omega)
      (repeat (first | with_reducible assumption | (with_reducible refine Blk.new' ?_; first | with_reducible rfl | (simp; done)) | with_reducible refine Blk.alloc ?_ _ | with_reducible refine Blk.grow ?_ _ | with_reducible refine Blk.drew ?_ | with_reducible refine Blk.drewN ?_ _ | (with_reducible refine Blk.far ?_ (by first | (dsimp only; omega) | (simp; omega)) _) | (with_reducible apply Blk.two) | (with_reducible refine Blk.set' ?_ _ _ ?_) | (with_reducible rfl) | rfl))
  clear f_a hw0
  have f_a := f_b
  clear f_b hb_1
  go_wp2_with fail
  have a0 := (f_a).cell 0
  have a1 := (f_a).cell 1
  have a2 := (f_a).cell 2
  have a3 := (f_a).cell 3
  have a4 := (f_a).cell 4
  have a5 := (f_a).cell 5
  have a6 := (f_a).cell 6
  have a7 := (f_a).cell 7
  have a8 := (f_a).cell 8
  have a9 := (f_a).cell 9
  have a10 := (f_a).cell 10
  have a11 := (f_a).cell 11
  have a12 := (f_a).cell 12
  have a13 := (f_a).cell 13
  have a14 := (f_a).cell 14
  have a15 := (f_a).cell 15
  have af0 := (f_a).frozen 0
  have af1 := (f_a).frozen 1
  have af2 := (f_a).frozen 2
  have af3 := (f_a).frozen 3
  have af4 := (f_a).frozen 4
  have af5 := (f_a).frozen 5
  have af6 := (f_a).frozen 6
  have af7 := (f_a).frozen 7
  have af8 := (f_a).frozen 8
  have af9 := (f_a).frozen 9
  have af10 := (f_a).frozen 10
  have af11 := (f_a).frozen 11
  have af12 := (f_a).frozen 12
  have af13 := (f_a).frozen 13
  have af14 := (f_a).frozen 14
  have af15 := (f_a).frozen 15
  have al := (f_a).lt
  go_region_held3 (fun w' => w'.cell? ⟨w.heap.size, 0, none⟩ = some (.int .u64 xi1) ∧ w'.cell? ⟨w.heap.size, 1, none⟩ = some (.int .u64 xi2) ∧ w'.cell? ⟨w.heap.size, 2, none⟩ = some (.int .u64 xd1) ∧ w'.cell? ⟨w.heap.size, 3, none⟩ = some (.int .u64 xd2) ∧ w'.cell? ⟨w.heap.size, 4, none⟩ = some (.int .u64 xc1) ∧ w'.cell? ⟨w.heap.size, 5, none⟩ = some (.int .u64 xc2) ∧ w'.cell? ⟨w.heap.size, 6, none⟩ = some (.int .u64 xm1) ∧ w'.cell? ⟨w.heap.size, 7, none⟩ = some (.int .u64 xm2) ∧ w'.cell? ⟨w.heap.size, 8, none⟩ = some (.int .u64 xw1) ∧ w'.cell? ⟨w.heap.size, 9, none⟩ = some (.int .u64 xw2) ∧ w'.cell? ⟨w.heap.size, 10, none⟩ = some (.int .u64 xtg) ∧ w'.cell? ⟨w.heap.size, 11, none⟩ = some (.int .u32 xto) ∧ w'.cell? ⟨w.heap.size, 12, none⟩ = some (.int .u32 xlg) ∧ w'.cell? ⟨w.heap.size, 13, none⟩ = some (.int .u16 xcd) ∧ w'.cell? ⟨w.heap.size, 14, none⟩ = some (.int .u16 xfl) ∧ w'.cell? ⟨w.heap.size, 15, none⟩ = some (.int .u64 xst))
      (first | ((try go_split_ands); refine ⟨?_, ?_, ?_, ?_, ?_, ?_, ?_, ?_, ?_, ?_, ?_, ?_, ?_, ?_, ?_, ?_⟩ <;> first | assumption | (simp [go_sem]; done) | exact keepc (bel_alloc (Below.refl _ _) _) (by assumption) | exact keepbb hb_4 (by dsimp only; omega) (by assumption) | exact keepbb hb_3 (by dsimp only; omega) (by assumption) | exact keepbb hb_2 (by dsimp only; omega) (by assumption)))
      (first
        | (go_at_call 55; (with_reducible refine (put64_at _ _ _ xtg 8 8 rfl (w.heap.size + 1 + 1) htg (by omega) (by omega) _ (belb_drew sz_1) (OwnB.drew ho_1)).mono ?_); rintro e w_2 ⟨v_2, rfl, ho_2, hb_2⟩; have sz_2 := belb_size hb_2 sz_1)
        | (go_at_call 53; (with_reducible refine (put32_at _ _ _ xto 4 4 rfl (w.heap.size + 1 + 1) hto (by omega) (by omega) _ sz_2 ho_2).mono ?_); rintro e w_3 ⟨v_3, rfl, ho_3, hb_3⟩; have sz_3 := belb_size hb_3 sz_2)
        | (go_at_call 53; (with_reducible refine (put32_at _ _ _ xlg 4 4 rfl (w.heap.size + 1 + 1) hlg (by omega) (by omega) _ sz_3 ho_3).mono ?_); rintro e w_4 ⟨v_4, rfl, ho_4, hb_4⟩; have sz_4 := belb_size hb_4 sz_3))
  clear a0 a1 a2 a3 a4 a5 a6 a7 a8 a9 a10 a11 a12 a13 a14 a15 af0 af1 af2 af3 af4 af5 af6 af7 af8 af9 af10 af11 af12 af13 af14 af15 al
  have hw_4 : Below w.heap.size w w_4 := by
      have hb0 : w.heap.size ≤ (w.heap.size + 1 + 1) := by omega
      refine Below.trans ?_ (hb_4.mono hb0)
      refine Below.trans ?_ (hb_3.mono hb0)
      refine Below.trans ?_ (hb_2.mono hb0)
      (repeat (first | exact Below.refl _ _ | assumption | refine below_drewN ?_ _ | refine bel_grow ?_ _ | refine Below.drew ?_ | refine bel_alloc ?_ _ | refine bel_set ?_ (by first | exact Nat.le_refl _ | (simp; done) | (simp; omega) | omega) _ | refine bel_trans ?_ (by assumption)))
  have f_b : Blk w_4 w.heap.size 67 #[.int .u64 xi1, .int .u64 xi2, .int .u64 xd1, .int .u64 xd2, .int .u64 xc1, .int .u64 xc2, .int .u64 xm1, .int .u64 xm2, .int .u64 xw1, .int .u64 xw2, .int .u64 xtg, .int .u32 xto, .int .u32 xlg, .int .u16 xcd, .int .u16 xfl, .int .u64 xst] := by
      refine Blk.lowb ?_ hb_4 (by omega)
      refine Blk.lowb ?_ hb_3 (by omega)
      refine Blk.lowb ?_ hb_2 (by omega)
      (repeat (first | with_reducible assumption | (with_reducible refine Blk.new' ?_; first | with_reducible rfl | (simp; done)) | with_reducible refine Blk.alloc ?_ _ | with_reducible refine Blk.grow ?_ _ | with_reducible refine Blk.drew ?_ | with_reducible refine Blk.drewN ?_ _ | (with_reducible refine Blk.far ?_ (by first | (dsimp only; omega) | (simp; omega)) _) | (with_reducible apply Blk.two) | (with_reducible refine Blk.set' ?_ _ _ ?_) | (with_reducible rfl) | rfl))
  clear f_a hw_1
  have f_a := f_b
  clear f_b hb_2 hb_3 hb_4
  go_wp2_with fail
  have a0 := (f_a).cell 0
  have a1 := (f_a).cell 1
  have a2 := (f_a).cell 2
  have a3 := (f_a).cell 3
  have a4 := (f_a).cell 4
  have a5 := (f_a).cell 5
  have a6 := (f_a).cell 6
  have a7 := (f_a).cell 7
  have a8 := (f_a).cell 8
  have a9 := (f_a).cell 9
  have a10 := (f_a).cell 10
  have a11 := (f_a).cell 11
  have a12 := (f_a).cell 12
  have a13 := (f_a).cell 13
  have a14 := (f_a).cell 14
  have a15 := (f_a).cell 15
  have af0 := (f_a).frozen 0
  have af1 := (f_a).frozen 1
  have af2 := (f_a).frozen 2
  have af3 := (f_a).frozen 3
  have af4 := (f_a).frozen 4
  have af5 := (f_a).frozen 5
  have af6 := (f_a).frozen 6
  have af7 := (f_a).frozen 7
  have af8 := (f_a).frozen 8
  have af9 := (f_a).frozen 9
  have af10 := (f_a).frozen 10
  have af11 := (f_a).frozen 11
  have af12 := (f_a).frozen 12
  have af13 := (f_a).frozen 13
  have af14 := (f_a).frozen 14
  have af15 := (f_a).frozen 15
  have al := (f_a).lt
  go_region_held3 (fun w' => w'.cell? ⟨w.heap.size, 0, none⟩ = some (.int .u64 xi1) ∧ w'.cell? ⟨w.heap.size, 1, none⟩ = some (.int .u64 xi2) ∧ w'.cell? ⟨w.heap.size, 2, none⟩ = some (.int .u64 xd1) ∧ w'.cell? ⟨w.heap.size, 3, none⟩ = some (.int .u64 xd2) ∧ w'.cell? ⟨w.heap.size, 4, none⟩ = some (.int .u64 xc1) ∧ w'.cell? ⟨w.heap.size, 5, none⟩ = some (.int .u64 xc2) ∧ w'.cell? ⟨w.heap.size, 6, none⟩ = some (.int .u64 xm1) ∧ w'.cell? ⟨w.heap.size, 7, none⟩ = some (.int .u64 xm2) ∧ w'.cell? ⟨w.heap.size, 8, none⟩ = some (.int .u64 xw1) ∧ w'.cell? ⟨w.heap.size, 9, none⟩ = some (.int .u64 xw2) ∧ w'.cell? ⟨w.heap.size, 10, none⟩ = some (.int .u64 xtg) ∧ w'.cell? ⟨w.heap.size, 11, none⟩ = some (.int .u32 xto) ∧ w'.cell? ⟨w.heap.size, 12, none⟩ = some (.int .u32 xlg) ∧ w'.cell? ⟨w.heap.size, 13, none⟩ = some (.int .u16 xcd) ∧ w'.cell? ⟨w.heap.size, 14, none⟩ = some (.int .u16 xfl) ∧ w'.cell? ⟨w.heap.size, 15, none⟩ = some (.int .u64 xst))
      (first | ((try go_split_ands); refine ⟨?_, ?_, ?_, ?_, ?_, ?_, ?_, ?_, ?_, ?_, ?_, ?_, ?_, ?_, ?_, ?_⟩ <;> first | assumption | (simp [go_sem]; done) | exact keepc (bel_alloc (Below.refl _ _) _) (by assumption) | exact keepbb hb_7 (by dsimp only; omega) (by assumption) | exact keepbb hb_6 (by dsimp only; omega) (by assumption) | exact keepbb hb_5 (by dsimp only; omega) (by assumption)))
      (first
        | (go_at_call 56; (with_reducible refine (put16_at _ _ _ xcd 2 2 rfl (w.heap.size + 1 + 1) hcd (by omega) (by omega) _ (belb_drew sz_4) (OwnB.drew ho_4)).mono ?_); rintro e w_5 ⟨v_5, rfl, ho_5, hb_5⟩; have sz_5 := belb_size hb_5 sz_4)
        | (go_at_call 56; (with_reducible refine (put16_at _ _ _ xfl 2 2 rfl (w.heap.size + 1 + 1) hfl (by omega) (by omega) _ sz_5 ho_5).mono ?_); rintro e w_6 ⟨v_6, rfl, ho_6, hb_6⟩; have sz_6 := belb_size hb_6 sz_5)
        | (go_at_call 55; (with_reducible refine (put64_at _ _ _ xst 8 8 rfl (w.heap.size + 1 + 1) hst (by omega) (by omega) _ sz_6 ho_6).mono ?_); rintro e w_7 ⟨v_7, rfl, ho_7, hb_7⟩; have sz_7 := belb_size hb_7 sz_6))
  clear a0 a1 a2 a3 a4 a5 a6 a7 a8 a9 a10 a11 a12 a13 a14 a15 af0 af1 af2 af3 af4 af5 af6 af7 af8 af9 af10 af11 af12 af13 af14 af15 al
  have hw_7 : Below w.heap.size w w_7 := by
      have hb0 : w.heap.size ≤ (w.heap.size + 1 + 1) := by omega
      refine Below.trans ?_ (hb_7.mono hb0)
      refine Below.trans ?_ (hb_6.mono hb0)
      refine Below.trans ?_ (hb_5.mono hb0)
      (repeat (first | exact Below.refl _ _ | assumption | refine below_drewN ?_ _ | refine bel_grow ?_ _ | refine Below.drew ?_ | refine bel_alloc ?_ _ | refine bel_set ?_ (by first | exact Nat.le_refl _ | (simp; done) | (simp; omega) | omega) _ | refine bel_trans ?_ (by assumption)))
  have f_b : Blk w_7 w.heap.size 67 #[.int .u64 xi1, .int .u64 xi2, .int .u64 xd1, .int .u64 xd2, .int .u64 xc1, .int .u64 xc2, .int .u64 xm1, .int .u64 xm2, .int .u64 xw1, .int .u64 xw2, .int .u64 xtg, .int .u32 xto, .int .u32 xlg, .int .u16 xcd, .int .u16 xfl, .int .u64 xst] := by
      refine Blk.lowb ?_ hb_7 (by omega)
      refine Blk.lowb ?_ hb_6 (by omega)
      refine Blk.lowb ?_ hb_5 (by omega)
      (repeat (first | with_reducible assumption | (with_reducible refine Blk.new' ?_; first | with_reducible rfl | (simp; done)) | with_reducible refine Blk.alloc ?_ _ | with_reducible refine Blk.grow ?_ _ | with_reducible refine Blk.drew ?_ | with_reducible refine Blk.drewN ?_ _ | (with_reducible refine Blk.far ?_ (by first | (dsimp only; omega) | (simp; omega)) _) | (with_reducible apply Blk.two) | (with_reducible refine Blk.set' ?_ _ _ ?_) | (with_reducible rfl) | rfl))
  clear f_a hw_4
  have f_a := f_b
  clear f_b hb_5 hb_6 hb_7
  go_wp2_with fail
  go_ret
  exact ⟨_, rfl, (OwnB.base (ho_7.cast (by omega) (fun _ _ => rfl)) (by omega)), hw_7⟩

end Go.Proofs.Ytncampbmnbhikaa
