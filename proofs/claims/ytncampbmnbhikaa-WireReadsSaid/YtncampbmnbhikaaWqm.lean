/-
  sameRequest, walked: equal requests are the same.
-/
import Derived.Test.YtncampbmnbhikaaWql
namespace Go.Proofs.Ytncampbmnbhikaa
set_option linter.unusedVariables false
set_option linter.unusedSimpArgs false
open Go.RowKit

theorem neqWA (x0 x1 x2 x3 x4 x5 x6 x7 x8 x9 x10 x11 x12 x13 x14 : Int) (w : World) : (binOp .neq 63 (.agg #[.int .u64 x0, .int .u64 x1, .int .u64 x2, .int .u64 x3, .int .u64 x4, .int .u64 x5, .int .u64 x6, .int .u64 x7, .int .u64 x8, .int .u64 x9, .int .u64 x10, .int .u32 x11, .int .u16 x12, .int .u16 x13, .int .u64 x14]) (.agg #[.int .u64 x0, .int .u64 x1, .int .u64 x2, .int .u64 x3, .int .u64 x4, .int .u64 x5, .int .u64 x6, .int .u64 x7, .int .u64 x8, .int .u64 x9, .int .u64 x10, .int .u32 x11, .int .u16 x12, .int .u16 x13, .int .u64 x14])).run Try.prog w = .ok (.bool false) w := by
  go_simp
  try simp
theorem neqWT (x0 x1 x2 x3 x4 x5 x6 x7 x8 x9 x10 x11 x12 x13 x14 x15 : Int) (w : World) : (binOp .neq 67 (.agg #[.int .u64 x0, .int .u64 x1, .int .u64 x2, .int .u64 x3, .int .u64 x4, .int .u64 x5, .int .u64 x6, .int .u64 x7, .int .u64 x8, .int .u64 x9, .int .u64 x10, .int .u32 x11, .int .u32 x12, .int .u16 x13, .int .u16 x14, .int .u64 x15]) (.agg #[.int .u64 x0, .int .u64 x1, .int .u64 x2, .int .u64 x3, .int .u64 x4, .int .u64 x5, .int .u64 x6, .int .u64 x7, .int .u64 x8, .int .u64 x9, .int .u64 x10, .int .u32 x11, .int .u32 x12, .int .u16 x13, .int .u16 x14, .int .u64 x15])).run Try.prog w = .ok (.bool false) w := by
  go_simp
  try simp
theorem neqWU (x0 x1 : Int) (w : World) : (binOp .neq 42 (.agg #[.int .u64 x0, .int .u64 x1]) (.agg #[.int .u64 x0, .int .u64 x1])).run Try.prog w = .ok (.bool false) w := by
  go_simp
  try simp
theorem neqWF (x0 x1 x2 x3 x4 x5 : Int) (w : World) : (binOp .neq 44 (.agg #[.int .u64 x0, .int .u64 x1, .int .u64 x2, .int .u64 x3, .int .u32 x4, .int .u32 x5]) (.agg #[.int .u64 x0, .int .u64 x1, .int .u64 x2, .int .u64 x3, .int .u32 x4, .int .u32 x5])).run Try.prog w = .ok (.bool false) w := by
  go_simp
  try simp
section
attribute [local go_sem ↓] load_WA load_WT load_WU
attribute [local go_sem] neqWA neqWT neqWU neqWF
set_option maxRecDepth 8000 in
set_option maxHeartbeats 4000000 in
theorem sameReq_yes (d : Rq) (AA TA UA AB TB UB : Option Addr) (ac tc uc bc sc vc : Nat) (hf : fitRq d) (w : World) (h1 : RqIs w AA TA UA d) (h2 : RqIs w AB TB UB d) :
    Calls Try.prog 17 #[.agg #[.int .i64 d.kd, .slice AA d.an ac, .slice TA d.tn tc, .slice UA d.un uc, .int .u64 (d.FF 0), .int .u64 (d.FF 1), .int .u64 (d.FF 2), .int .u64 (d.FF 3), .int .u32 (d.FF 4), .int .u32 (d.FF 5)], .agg #[.int .i64 d.kd, .slice AB d.an bc, .slice TB d.tn sc, .slice UB d.un vc, .int .u64 (d.FF 0), .int .u64 (d.FF 1), .int .u64 (d.FF 2), .int .u64 (d.FF 3), .int .u32 (d.FF 4), .int .u32 (d.FF 5)]] w fun r w' => r = .returned (.bool true) ∧ Below w.heap.size w w' := by
  obtain ⟨f1, f2, f3⟩ := hf
  obtain ⟨sA, sT, sU⟩ := h1
  obtain ⟨zA, zT, zU⟩ := h2
  replace sA := Lib.hid sA
  replace sT := Lib.hid sT
  replace sU := Lib.hid sU
  replace zA := Lib.hid zA
  replace zT := Lib.hid zT
  replace zU := Lib.hid zU
  go_enter Try.func17, Try.ntmps17
  go_wp2_with fail
  refine abs_wp (fun X => Below w.heap.size w X ∧ Blk X w.heap.size 46 #[.int .i64 d.kd, .slice AA d.an ac, .slice TA d.tn tc, .slice UA d.un uc, .int .u64 (d.FF 0), .int .u64 (d.FF 1), .int .u64 (d.FF 2), .int .u64 (d.FF 3), .int .u32 (d.FF 4), .int .u32 (d.FF 5)] ∧ Blk X (w.heap.size + 1) 46 #[.int .i64 d.kd, .slice AB d.an bc, .slice TB d.tn sc, .slice UB d.un vc, .int .u64 (d.FF 0), .int .u64 (d.FF 1), .int .u64 (d.FF 2), .int .u64 (d.FF 3), .int .u32 (d.FF 4), .int .u32 (d.FF 5)]) ⟨by (repeat (first | exact Below.refl _ _ | assumption | refine below_drewN ?_ _ | refine bel_grow ?_ _ | refine Below.drew ?_ | refine bel_alloc ?_ _ | refine bel_set ?_ (by first | exact Nat.le_refl _ | (simp; done) | (simp; omega) | omega) _ | refine bel_trans ?_ (by assumption))), (Blk.new _ _ _).kept (bel_alloc (Below.refl _ _) _), Blk.newE (l := [.int .i64 d.kd, .slice AB d.an bc, .slice TB d.tn sc, .slice UB d.un vc, .int .u64 (d.FF 0), .int .u64 (d.FF 1), .int .u64 (d.FF 2), .int .u64 (d.FF 3), .int .u32 (d.FF 4), .int .u32 (d.FF 5)]) (by simp) rfl⟩ ?_
  rintro X ⟨hb, ga, gb⟩
  replace hb := Lib.hid hb
  replace ga := Lib.hid ga
  replace gb := Lib.hid gb
  go_loopw [50] (fun i wr => ∃ m : Nat, m ≤ d.an ∧ i = .int .i64 m ∧ Hid (Below w.heap.size w wr) ∧ Hid (Blk wr w.heap.size 46 #[.int .i64 d.kd, .slice AA d.an ac, .slice TA d.tn tc, .slice UA d.un uc, .int .u64 (d.FF 0), .int .u64 (d.FF 1), .int .u64 (d.FF 2), .int .u64 (d.FF 3), .int .u32 (d.FF 4), .int .u32 (d.FF 5)]) ∧ Hid (Blk wr (w.heap.size + 1) 46 #[.int .i64 d.kd, .slice AB d.an bc, .slice TB d.tn sc, .slice UB d.un vc, .int .u64 (d.FF 0), .int .u64 (d.FF 1), .int .u64 (d.FF 2), .int .u64 (d.FF 3), .int .u32 (d.FF 4), .int .u32 (d.FF 5)])) (fun i _ => d.an - (intOf i).toNat)
  case atStart => exact ⟨0, by omega, rfl, hb.out, ga.out, gb.out⟩
  case round =>
    obtain ⟨m, hm, rfl, hb, ga, gb⟩ := hrel
    have x0 := (ga.out).cell 0
    have x1 := (ga.out).cell 1
    have x2 := (ga.out).cell 2
    have x3 := (ga.out).cell 3
    have x4 := (ga.out).cell 4
    have x5 := (ga.out).cell 5
    have x6 := (ga.out).cell 6
    have x7 := (ga.out).cell 7
    have x8 := (ga.out).cell 8
    have x9 := (ga.out).cell 9
    have xf0 := (ga.out).frozen 0
    have xf1 := (ga.out).frozen 1
    have xf2 := (ga.out).frozen 2
    have xf3 := (ga.out).frozen 3
    have xf4 := (ga.out).frozen 4
    have xf5 := (ga.out).frozen 5
    have xf6 := (ga.out).frozen 6
    have xf7 := (ga.out).frozen 7
    have xf8 := (ga.out).frozen 8
    have xf9 := (ga.out).frozen 9
    have xl := (ga.out).lt
    have y0 := (gb.out).cell 0
    have y1 := (gb.out).cell 1
    have y2 := (gb.out).cell 2
    have y3 := (gb.out).cell 3
    have y4 := (gb.out).cell 4
    have y5 := (gb.out).cell 5
    have y6 := (gb.out).cell 6
    have y7 := (gb.out).cell 7
    have y8 := (gb.out).cell 8
    have y9 := (gb.out).cell 9
    have yf0 := (gb.out).frozen 0
    have yf1 := (gb.out).frozen 1
    have yf2 := (gb.out).frozen 2
    have yf3 := (gb.out).frozen 3
    have yf4 := (gb.out).frozen 4
    have yf5 := (gb.out).frozen 5
    have yf6 := (gb.out).frozen 6
    have yf7 := (gb.out).frozen 7
    have yf8 := (gb.out).frozen 8
    have yf9 := (gb.out).frozen 9
    have yl := (gb.out).lt
    by_cases hlt : m < d.an
    · obtain ⟨b1, o1, rfl, hbl1, hc1⟩ := (sA.out.below hb.out) (by omega)
      obtain ⟨b2, o2, rfl, hbl2, hc2⟩ := (zA.out.below hb.out) (by omega)
      have hL1 := fun k => mid_A (w := Grow wr k) (rangeAt_below (hc1 m hlt) (grow_below wr k))
      have hL2 := fun k => mid_A (w := Grow wr k) (rangeAt_below (hc2 m hlt) (grow_below wr k))
      clear hc1 hc2
      go_wp2_with fail
      first | (with_reducible refine rgrow2 (by kernel_rfl) (by kernel_rfl) ?_) | (refine rgrow (by kernel_rfl) (by kernel_rfl) ?_)
      repeat (go_big_quiet_step ((fail)))
      refine wpQuiet_nil ?_
      intro dr
      go_wp2_with fail
      go_roundw
      case rel => exact ⟨m + 1, by omega, by go_num, bel_grow hb.out _, ga.out.grow _, gb.out.grow _⟩
      case measure => simp [intOf]; omega
    · obtain rfl : m = d.an := by omega
      go_wp2_with fail
      go_loopw [68] (fun i wr => ∃ m : Nat, m ≤ d.tn ∧ i = .int .i64 m ∧ Hid (Below w.heap.size w wr) ∧ Hid (Blk wr w.heap.size 46 #[.int .i64 d.kd, .slice AA d.an ac, .slice TA d.tn tc, .slice UA d.un uc, .int .u64 (d.FF 0), .int .u64 (d.FF 1), .int .u64 (d.FF 2), .int .u64 (d.FF 3), .int .u32 (d.FF 4), .int .u32 (d.FF 5)]) ∧ Hid (Blk wr (w.heap.size + 1) 46 #[.int .i64 d.kd, .slice AB d.an bc, .slice TB d.tn sc, .slice UB d.un vc, .int .u64 (d.FF 0), .int .u64 (d.FF 1), .int .u64 (d.FF 2), .int .u64 (d.FF 3), .int .u32 (d.FF 4), .int .u32 (d.FF 5)])) (fun i _ => d.tn - (intOf i).toNat)
      case atStart => exact ⟨0, by omega, rfl, hb.out, ga.out, gb.out⟩
      case round =>
        obtain ⟨m, hm, rfl, hb, ga, gb⟩ := hrel
        have x0 := (ga.out).cell 0
        have x1 := (ga.out).cell 1
        have x2 := (ga.out).cell 2
        have x3 := (ga.out).cell 3
        have x4 := (ga.out).cell 4
        have x5 := (ga.out).cell 5
        have x6 := (ga.out).cell 6
        have x7 := (ga.out).cell 7
        have x8 := (ga.out).cell 8
        have x9 := (ga.out).cell 9
        have xf0 := (ga.out).frozen 0
        have xf1 := (ga.out).frozen 1
        have xf2 := (ga.out).frozen 2
        have xf3 := (ga.out).frozen 3
        have xf4 := (ga.out).frozen 4
        have xf5 := (ga.out).frozen 5
        have xf6 := (ga.out).frozen 6
        have xf7 := (ga.out).frozen 7
        have xf8 := (ga.out).frozen 8
        have xf9 := (ga.out).frozen 9
        have xl := (ga.out).lt
        have y0 := (gb.out).cell 0
        have y1 := (gb.out).cell 1
        have y2 := (gb.out).cell 2
        have y3 := (gb.out).cell 3
        have y4 := (gb.out).cell 4
        have y5 := (gb.out).cell 5
        have y6 := (gb.out).cell 6
        have y7 := (gb.out).cell 7
        have y8 := (gb.out).cell 8
        have y9 := (gb.out).cell 9
        have yf0 := (gb.out).frozen 0
        have yf1 := (gb.out).frozen 1
        have yf2 := (gb.out).frozen 2
        have yf3 := (gb.out).frozen 3
        have yf4 := (gb.out).frozen 4
        have yf5 := (gb.out).frozen 5
        have yf6 := (gb.out).frozen 6
        have yf7 := (gb.out).frozen 7
        have yf8 := (gb.out).frozen 8
        have yf9 := (gb.out).frozen 9
        have yl := (gb.out).lt
        by_cases hlt : m < d.tn
        · obtain ⟨b1, o1, rfl, hbl1, hc1⟩ := (sT.out.below hb.out) (by omega)
          obtain ⟨b2, o2, rfl, hbl2, hc2⟩ := (zT.out.below hb.out) (by omega)
          have hL1 := fun k => mid_T (w := Grow wr k) (rangeAt_below (hc1 m hlt) (grow_below wr k))
          have hL2 := fun k => mid_T (w := Grow wr k) (rangeAt_below (hc2 m hlt) (grow_below wr k))
          clear hc1 hc2
          go_wp2_with fail
          first | (with_reducible refine rgrow2 (by kernel_rfl) (by kernel_rfl) ?_) | (refine rgrow (by kernel_rfl) (by kernel_rfl) ?_)
          repeat (go_big_quiet_step ((fail)))
          refine wpQuiet_nil ?_
          intro dr
          go_wp2_with fail
          go_roundw
          case rel => exact ⟨m + 1, by omega, by go_num, bel_grow hb.out _, ga.out.grow _, gb.out.grow _⟩
          case measure => simp [intOf]; omega
        · obtain rfl : m = d.tn := by omega
          go_wp2_with fail
          go_loopw [86] (fun i wr => ∃ m : Nat, m ≤ d.un ∧ i = .int .i64 m ∧ Hid (Below w.heap.size w wr) ∧ Hid (Blk wr w.heap.size 46 #[.int .i64 d.kd, .slice AA d.an ac, .slice TA d.tn tc, .slice UA d.un uc, .int .u64 (d.FF 0), .int .u64 (d.FF 1), .int .u64 (d.FF 2), .int .u64 (d.FF 3), .int .u32 (d.FF 4), .int .u32 (d.FF 5)]) ∧ Hid (Blk wr (w.heap.size + 1) 46 #[.int .i64 d.kd, .slice AB d.an bc, .slice TB d.tn sc, .slice UB d.un vc, .int .u64 (d.FF 0), .int .u64 (d.FF 1), .int .u64 (d.FF 2), .int .u64 (d.FF 3), .int .u32 (d.FF 4), .int .u32 (d.FF 5)])) (fun i _ => d.un - (intOf i).toNat)
          case atStart => exact ⟨0, by omega, rfl, hb.out, ga.out, gb.out⟩
          case round =>
            obtain ⟨m, hm, rfl, hb, ga, gb⟩ := hrel
            have x0 := (ga.out).cell 0
            have x1 := (ga.out).cell 1
            have x2 := (ga.out).cell 2
            have x3 := (ga.out).cell 3
            have x4 := (ga.out).cell 4
            have x5 := (ga.out).cell 5
            have x6 := (ga.out).cell 6
            have x7 := (ga.out).cell 7
            have x8 := (ga.out).cell 8
            have x9 := (ga.out).cell 9
            have xf0 := (ga.out).frozen 0
            have xf1 := (ga.out).frozen 1
            have xf2 := (ga.out).frozen 2
            have xf3 := (ga.out).frozen 3
            have xf4 := (ga.out).frozen 4
            have xf5 := (ga.out).frozen 5
            have xf6 := (ga.out).frozen 6
            have xf7 := (ga.out).frozen 7
            have xf8 := (ga.out).frozen 8
            have xf9 := (ga.out).frozen 9
            have xl := (ga.out).lt
            have y0 := (gb.out).cell 0
            have y1 := (gb.out).cell 1
            have y2 := (gb.out).cell 2
            have y3 := (gb.out).cell 3
            have y4 := (gb.out).cell 4
            have y5 := (gb.out).cell 5
            have y6 := (gb.out).cell 6
            have y7 := (gb.out).cell 7
            have y8 := (gb.out).cell 8
            have y9 := (gb.out).cell 9
            have yf0 := (gb.out).frozen 0
            have yf1 := (gb.out).frozen 1
            have yf2 := (gb.out).frozen 2
            have yf3 := (gb.out).frozen 3
            have yf4 := (gb.out).frozen 4
            have yf5 := (gb.out).frozen 5
            have yf6 := (gb.out).frozen 6
            have yf7 := (gb.out).frozen 7
            have yf8 := (gb.out).frozen 8
            have yf9 := (gb.out).frozen 9
            have yl := (gb.out).lt
            by_cases hlt : m < d.un
            · obtain ⟨b1, o1, rfl, hbl1, hc1⟩ := (sU.out.below hb.out) (by omega)
              obtain ⟨b2, o2, rfl, hbl2, hc2⟩ := (zU.out.below hb.out) (by omega)
              have hL1 := fun k => mid_U (w := Grow wr k) (rangeAt_below (hc1 m hlt) (grow_below wr k))
              have hL2 := fun k => mid_U (w := Grow wr k) (rangeAt_below (hc2 m hlt) (grow_below wr k))
              clear hc1 hc2
              go_wp2_with fail
              first | (with_reducible refine rgrow2 (by kernel_rfl) (by kernel_rfl) ?_) | (refine rgrow (by kernel_rfl) (by kernel_rfl) ?_)
              repeat (go_big_quiet_step ((fail)))
              refine wpQuiet_nil ?_
              intro dr
              go_wp2_with fail
              go_roundw
              case rel => exact ⟨m + 1, by omega, by go_num, bel_grow hb.out _, ga.out.grow _, gb.out.grow _⟩
              case measure => simp [intOf]; omega
            · obtain rfl : m = d.un := by omega
              go_wp2_with fail
              go_ret
              exact ⟨rfl, hb.out⟩
end
end Go.Proofs.Ytncampbmnbhikaa
