/-
  The walk of the statement FilterParts.
-/
import Derived.Test.YtmoflbpglkeikaaFilterO
import Derived.Test.YtmoflbpglkeikaaBlk
import Derived.Deep.DeepCutAuto
namespace Go.Proofs.Ytmoflbpglkeikaa
set_option linter.unusedVariables false
set_option linter.unusedSimpArgs false
open Go.RowKit

theorem takes_is {a b c d e f s g : Int} {x y : Bool} (hg : g = 1 ∨ g = 2) (hx : rightB a b c d e f = x) (hy : takesB x c d f s g = y) (w : World) : Calls Try.prog 15 #[.agg #[.int .u64 a, .int .u64 b, .int .u64 c, .int .u64 d, .int .u32 e, .int .u32 f], .int .u64 s, .int .u8 g] w fun r w' => r = .returned (.bool y) ∧ Below w.heap.size w w' :=
  hy ▸ takes_any a b c d e f s g (by omega) x hx w
theorem cut_takes {c d f s g v : Int} (hg : g = 1 ∨ g = 2) (hc : 0 ≤ c) (h1 : winF true c < v) (h2 : v ≤ winT true d) (h3 : v - 1 ≠ 0) :
    (takesB true c (v - 1) f s g = true ∧ takesB true v d f s g = false ∧ takesB true c d f s g = true) ∨ (takesB true c (v - 1) f s g = false ∧ takesB true v d f s g = true ∧ takesB true c d f s g = true) ∨ (takesB true c (v - 1) f s g = false ∧ takesB true v d f s g = false ∧ takesB true c d f s g = false) := by
  rw [takes_in _ _ _ _ _ hg, takes_in _ _ _ _ _ hg, takes_in _ _ _ _ _ hg]
  rcases in_cut (s := s) hc h1 h2 h3 with ⟨e1, e2, e3⟩ | ⟨e1, e2, e3⟩ | ⟨e1, e2, e3⟩ <;> rw [e1, e2, e3] <;> cases (bits .and .u32 f g != 0) <;> simp

set_option maxHeartbeats 1000000 in
theorem filterParts_no (a b c d e f s v : Int) (h : rightB a b c d e f = false) (w : World) : Calls Try.prog 5 #[.agg #[.int .u64 a, .int .u64 b, .int .u64 c, .int .u64 d, .int .u32 e, .int .u32 f], .int .u64 s, .int .u64 v] w fun r w' => r = .returned (.bool true) ∧ Below w.heap.size w w' := by
  have HR := Lib.hid (fun w => right_is h w)
  have HT1 := Lib.hid (fun w => takes_is (s := s) (g := 1) (y := false) (Or.inl rfl) h rfl w)
  have HT2 := Lib.hid (fun w => takes_is (s := s) (g := 2) (y := false) (Or.inr rfl) h rfl w)
  clear h
  go_enter Try.func5, Try.ntmps5
  go_wp2_with (first | (go_at_call 10; first | ((with_reducible refine (grow_call (HR.out _)).mono ?_); rintro e9 w9 ⟨rfl, dw, rfl⟩) | ((with_reducible refine (gro (HR.out _)).mono ?_); rintro e9 w9 ⟨rfl, dw, rfl⟩)) | (go_at_call 9; first | ((with_reducible refine (grow_call (fixed_any _)).mono ?_); rintro e w' ⟨rfl, d1, rfl⟩) | ((with_reducible refine (gro (fixed_any _)).mono ?_); rintro e w' ⟨rfl, d1, rfl⟩)) | (go_at_call 15; first | ((with_reducible refine (grow_call (HT1.out _)).mono ?_); rintro e9 w9 ⟨rfl, dw, rfl⟩) | ((with_reducible refine (gro (HT1.out _)).mono ?_); rintro e9 w9 ⟨rfl, dw, rfl⟩) | ((with_reducible refine (grow_call (HT2.out _)).mono ?_); rintro e9 w9 ⟨rfl, dw, rfl⟩) | ((with_reducible refine (gro (HT2.out _)).mono ?_); rintro e9 w9 ⟨rfl, dw, rfl⟩)))
  go_ret
  exact ⟨rfl, (by repeat (first | exact Below.refl _ _ | assumption | refine below_drewN ?_ _ | refine bel_grow ?_ _ | refine Below.drew ?_ | refine bel_alloc ?_ _ | refine bel_set ?_ (by first | exact Nat.le_refl _ | (simp; done) | (simp; omega) | omega) _ | refine bel_trans ?_ (by assumption)))⟩

set_option maxRecDepth 8000 in
set_option maxHeartbeats 8000000 in
theorem filterParts_yes (a b c d e f s v : Int) (hc : 0 ≤ c ∧ c < 18446744073709551616) (hd : 0 ≤ d ∧ d < 18446744073709551616) (hv : 0 ≤ v ∧ v < 18446744073709551616) (h : rightB a b c d e f = true) (w : World) : Calls Try.prog 5 #[.agg #[.int .u64 a, .int .u64 b, .int .u64 c, .int .u64 d, .int .u32 e, .int .u32 f], .int .u64 s, .int .u64 v] w fun r w' => r = .returned (.bool true) ∧ Below w.heap.size w w' := by
  have HR := Lib.hid (fun w => right_is h w)
  have HW := Lib.hid (fun w => window_any a b c d e f true h w)
  have h1 := right_flags (g := 1) (Or.inl rfl) h
  have h2 := right_flags (g := 2) (Or.inr rfl) h
  have hl := Lib.hid (fun k => right_low hc.1 hv h k)
  have hh := Lib.hid (fun k1 k2 => right_high hc.1 hd hv h k1 k2)
  have HX1 := fun k1 k2 k3 => cut_takes (c := c) (d := d) (f := f) (s := s) (g := 1) (v := v) (Or.inl rfl) hc.1 k1 k2 k3
  have HX2 := fun k1 k2 k3 => cut_takes (c := c) (d := d) (f := f) (s := s) (g := 2) (v := v) (Or.inr rfl) hc.1 k1 k2 k3
  obtain ⟨t1, ht1⟩ : ∃ t1, takesB true c d f s 1 = t1 := ⟨_, rfl⟩
  obtain ⟨t2, ht2⟩ : ∃ t2, takesB true c d f s 2 = t2 := ⟨_, rfl⟩
  obtain ⟨y, hy⟩ : ∃ y, inW c d s = y := ⟨_, rfl⟩
  obtain ⟨p1, hp1⟩ : ∃ p1, (bits .and .u32 f 1 != 0) = p1 := ⟨_, rfl⟩
  obtain ⟨p2, hp2⟩ : ∃ p2, (bits .and .u32 f 2 != 0) = p2 := ⟨_, rfl⟩
  have hpy1 : (p1 && y) = t1 := by rw [← ht1, takes_in _ _ _ _ _ (Or.inl rfl), hp1, hy]
  have hpy2 : (p2 && y) = t2 := by rw [← ht2, takes_in _ _ _ _ _ (Or.inr rfl), hp2, hy]
  rw [ht1] at HX1
  rw [ht2] at HX2
  have HF1 := Lib.hid (fun w => takes_is (a := a) (b := b) (e := e) (Or.inl rfl) h ht1 w)
  have HF2 := Lib.hid (fun w => takes_is (a := a) (b := b) (e := e) (Or.inr rfl) h ht2 w)
  have HD1 := Lib.hid (fun w => takes_is (a := a) (b := b) (c := c) (d := d) (e := e) (f := 1) (s := s) (g := 1) (y := y) (Or.inl rfl) h1 (by rw [takes_flag1, hy]) w)
  have HD2 := Lib.hid (fun w => takes_is (a := a) (b := b) (c := c) (d := d) (e := e) (f := 1) (s := s) (g := 2) (y := false) (Or.inr rfl) h1 (takes_flag12 _ _ _) w)
  have HC1 := Lib.hid (fun w => takes_is (a := a) (b := b) (c := c) (d := d) (e := e) (f := 2) (s := s) (g := 1) (y := false) (Or.inl rfl) h2 (takes_flag21 _ _ _) w)
  have HC2 := Lib.hid (fun w => takes_is (a := a) (b := b) (c := c) (d := d) (e := e) (f := 2) (s := s) (g := 2) (y := y) (Or.inr rfl) h2 (by rw [takes_flag2, hy]) w)
  have RX := Lib.hid (fun w => fixed_any w)
  replace HX1 := Lib.hid HX1
  replace HX2 := Lib.hid HX2
  replace hpy1 := Lib.hid hpy1
  replace hpy2 := Lib.hid hpy2
  replace hp1 := Lib.hid hp1
  replace hp2 := Lib.hid hp2
  clear ht1 ht2 hy h1 h2 h
  generalize hFF : winF true c = FF at *
  generalize hTT : winT true d = TT at *
  have hF0 : 0 ≤ FF := by rw [← hFF]; exact hc.1
  clear hFF hTT hc hd
  go_enter Try.func5, Try.ntmps5
  go_wp2_with (go_at_call 10; refine (HR.out _).mono ?_; rintro e9 w1 ⟨rfl, hb1⟩)
  have hB1 : Below w.heap.size w w1 := bel_eld (w := w) (X := _) (by (repeat (first | exact Below.refl _ _ | assumption | refine below_drewN ?_ _ | refine bel_grow ?_ _ | refine Below.drew ?_ | refine bel_alloc ?_ _ | refine bel_set ?_ (by first | exact Nat.le_refl _ | (simp; done) | (simp; omega) | omega) _ | refine bel_trans ?_ (by assumption)))) hb1
  have f_f : Blk w1 w.heap.size 27 #[.int .u64 a, .int .u64 b, .int .u64 c, .int .u64 d, .int .u32 e, .int .u32 f] := Blk.kept (by (repeat (first | with_reducible assumption | (with_reducible refine Blk.new' ?_; first | with_reducible rfl | (simp; done)) | with_reducible refine Blk.alloc ?_ _ | with_reducible refine Blk.grow ?_ _ | with_reducible refine Blk.drew ?_ | with_reducible refine Blk.drewN ?_ _ | (with_reducible refine Blk.far ?_ (by first | (dsimp only; omega) | (simp; omega)) _) | (with_reducible apply Blk.two) | (with_reducible refine Blk.set' ?_ _ _ ?_) | (with_reducible rfl) | rfl))) hb1
  clear hb1
  go_upto_region 3 with fail
  go_cut [7, 8] (fun s7 s8 wx => ∃ pd pc, s7 = .pointer (some ⟨pd, 0, none⟩) ∧ s8 = .pointer (some ⟨pc, 0, none⟩) ∧ w.heap.size < pd ∧ w.heap.size < pc ∧ pd ≠ pc ∧ Blk wx pd 27 #[.int .u64 a, .int .u64 b, .int .u64 c, .int .u64 d, .int .u32 e, .int .u32 f] ∧ Blk wx pc 27 #[.int .u64 a, .int .u64 b, .int .u64 c, .int .u64 d, .int .u32 e, .int .u32 f] ∧ Blk wx w.heap.size 27 #[.int .u64 a, .int .u64 b, .int .u64 c, .int .u64 d, .int .u32 e, .int .u32 f] ∧ Below w.heap.size w wx)
  case first =>
    have f0 := (f_f).cell 0
    have f1 := (f_f).cell 1
    have f2 := (f_f).cell 2
    have f3 := (f_f).cell 3
    have f4 := (f_f).cell 4
    have f5 := (f_f).cell 5
    have ff0 := (f_f).frozen 0
    have ff1 := (f_f).frozen 1
    have ff2 := (f_f).frozen 2
    have ff3 := (f_f).frozen 3
    have ff4 := (f_f).frozen 4
    have ff5 := (f_f).frozen 5
    have fl := (f_f).lt
    replace f_f := Lib.hid f_f
    replace hB1 := Lib.hid hB1
    go_region
    all_goals (
      go_wp2_with fail
      go_meet
      have t1 := f_f.out
      have t2 := hB1.out
      exact ⟨_, _, rfl, rfl, by first | omega | (simp; omega), by first | omega | (simp; omega), by first | omega | (simp; done) | (simp; omega), by (repeat (first | with_reducible assumption | (with_reducible refine Blk.new' ?_; first | with_reducible rfl | (simp; done)) | with_reducible refine Blk.alloc ?_ _ | with_reducible refine Blk.grow ?_ _ | with_reducible refine Blk.drew ?_ | with_reducible refine Blk.drewN ?_ _ | (with_reducible refine Blk.far ?_ (by first | (dsimp only; omega) | (simp; omega)) _) | (with_reducible apply Blk.two) | (with_reducible refine Blk.set' ?_ _ _ ?_) | (with_reducible rfl) | rfl)), by (repeat (first | with_reducible assumption | (with_reducible refine Blk.new' ?_; first | with_reducible rfl | (simp; done)) | with_reducible refine Blk.alloc ?_ _ | with_reducible refine Blk.grow ?_ _ | with_reducible refine Blk.drew ?_ | with_reducible refine Blk.drewN ?_ _ | (with_reducible refine Blk.far ?_ (by first | (dsimp only; omega) | (simp; omega)) _) | (with_reducible apply Blk.two) | (with_reducible refine Blk.set' ?_ _ _ ?_) | (with_reducible rfl) | rfl)), by (repeat (first | with_reducible assumption | (with_reducible refine Blk.new' ?_; first | with_reducible rfl | (simp; done)) | with_reducible refine Blk.alloc ?_ _ | with_reducible refine Blk.grow ?_ _ | with_reducible refine Blk.drew ?_ | with_reducible refine Blk.drewN ?_ _ | (with_reducible refine Blk.far ?_ (by first | (dsimp only; omega) | (simp; omega)) _) | (with_reducible apply Blk.two) | (with_reducible refine Blk.set' ?_ _ _ ?_) | (with_reducible rfl) | rfl)), by (repeat (first | with_reducible exact Below.refl _ _ | with_reducible assumption | (with_reducible refine bel_set ?_ (by first | exact Nat.le_refl _ | (simp; done) | (simp; omega) | omega) _) | with_reducible refine bel_grow ?_ _ | with_reducible refine Below.drew ?_ | with_reducible refine below_drewN ?_ _ | with_reducible refine bel_alloc ?_ _ | with_reducible refine bel_trans ?_ (by assumption)))⟩)
  case rest =>
    clear f_f hB1
    obtain ⟨pd, pc, rfl, rfl, l1, l2, l3, g_d, g_c, g_f, hB⟩ := hcut
    have f0 := (g_f).cell 0
    have f1 := (g_f).cell 1
    have f2 := (g_f).cell 2
    have f3 := (g_f).cell 3
    have f4 := (g_f).cell 4
    have f5 := (g_f).cell 5
    have ff0 := (g_f).frozen 0
    have ff1 := (g_f).frozen 1
    have ff2 := (g_f).frozen 2
    have ff3 := (g_f).frozen 3
    have ff4 := (g_f).frozen 4
    have ff5 := (g_f).frozen 5
    have fl := (g_f).lt
    have d0 := (g_d).cell 0
    have d1 := (g_d).cell 1
    have d2 := (g_d).cell 2
    have d3 := (g_d).cell 3
    have d4 := (g_d).cell 4
    have d5 := (g_d).cell 5
    have df0 := (g_d).frozen 0
    have df1 := (g_d).frozen 1
    have df2 := (g_d).frozen 2
    have df3 := (g_d).frozen 3
    have df4 := (g_d).frozen 4
    have df5 := (g_d).frozen 5
    have dl := (g_d).lt
    have c0 := (g_c).cell 0
    have c1 := (g_c).cell 1
    have c2 := (g_c).cell 2
    have c3 := (g_c).cell 3
    have c4 := (g_c).cell 4
    have c5 := (g_c).cell 5
    have cf0 := (g_c).frozen 0
    have cf1 := (g_c).frozen 1
    have cf2 := (g_c).frozen 2
    have cf3 := (g_c).frozen 3
    have cf4 := (g_c).frozen 4
    have cf5 := (g_c).frozen 5
    have cl := (g_c).lt
    replace g_f := Lib.hid g_f
    replace g_d := Lib.hid g_d
    replace g_c := Lib.hid g_c
    replace hB := Lib.hid hB
    go_wp2_with fail
    go_loopw [9] (fun i wr => ∃ k : Int, (k = 1 ∨ k = 2 ∨ k = 3) ∧ i = .int .u8 k ∧ Below w.heap.size w wr ∧ Blk wr w.heap.size 27 #[.int .u64 a, .int .u64 b, .int .u64 c, .int .u64 d, .int .u32 e, .int .u32 f] ∧ Blk wr pd 27 #[.int .u64 a, .int .u64 b, .int .u64 c, .int .u64 d, .int .u32 e, .int .u32 1] ∧ Blk wr pc 27 #[.int .u64 a, .int .u64 b, .int .u64 c, .int .u64 d, .int .u32 e, .int .u32 2]) (fun i _ => 3 - (intOf i).toNat)
    case atStart => exact ⟨1, Or.inl rfl, rfl, by have t := hB.out; (repeat (first | with_reducible exact Below.refl _ _ | with_reducible assumption | (with_reducible refine bel_set ?_ (by first | exact Nat.le_refl _ | (simp; done) | (simp; omega) | omega) _) | with_reducible refine bel_grow ?_ _ | with_reducible refine Below.drew ?_ | with_reducible refine below_drewN ?_ _ | with_reducible refine bel_alloc ?_ _ | with_reducible refine bel_trans ?_ (by assumption))), by have t := g_f.out; (repeat (first | with_reducible assumption | (with_reducible refine Blk.new' ?_; first | with_reducible rfl | (simp; done)) | with_reducible refine Blk.alloc ?_ _ | with_reducible refine Blk.grow ?_ _ | with_reducible refine Blk.drew ?_ | with_reducible refine Blk.drewN ?_ _ | (with_reducible refine Blk.far ?_ (by first | (dsimp only; omega) | (simp; omega)) _) | (with_reducible apply Blk.two) | (with_reducible refine Blk.set' ?_ _ _ ?_) | (with_reducible rfl) | rfl)), by exact Blk.far (Blk.set' g_d.out 5 _ (by simp)) (by dsimp only; omega) _, by exact Blk.set' (Blk.far g_c.out (by dsimp only; omega) _) 5 _ (by simp)⟩
    case round =>
      clear f0 f1 f2 f3 f4 f5 ff0 ff1 ff2 ff3 ff4 ff5 fl d0 d1 d2 d3 d4 d5 df0 df1 df2 df3 df4 df5 dl c0 c1 c2 c3 c4 c5 cf0 cf1 cf2 cf3 cf4 cf5 cl hB g_f g_d g_c
      obtain ⟨k, hk, rfl, hB, g_f, g_d, g_c⟩ := hrel
      have f0 := (g_f).cell 0
      have f1 := (g_f).cell 1
      have f2 := (g_f).cell 2
      have f3 := (g_f).cell 3
      have f4 := (g_f).cell 4
      have f5 := (g_f).cell 5
      have ff0 := (g_f).frozen 0
      have ff1 := (g_f).frozen 1
      have ff2 := (g_f).frozen 2
      have ff3 := (g_f).frozen 3
      have ff4 := (g_f).frozen 4
      have ff5 := (g_f).frozen 5
      have fl := (g_f).lt
      have d0 := (g_d).cell 0
      have d1 := (g_d).cell 1
      have d2 := (g_d).cell 2
      have d3 := (g_d).cell 3
      have d4 := (g_d).cell 4
      have d5 := (g_d).cell 5
      have df0 := (g_d).frozen 0
      have df1 := (g_d).frozen 1
      have df2 := (g_d).frozen 2
      have df3 := (g_d).frozen 3
      have df4 := (g_d).frozen 4
      have df5 := (g_d).frozen 5
      have dl := (g_d).lt
      have c0 := (g_c).cell 0
      have c1 := (g_c).cell 1
      have c2 := (g_c).cell 2
      have c3 := (g_c).cell 3
      have c4 := (g_c).cell 4
      have c5 := (g_c).cell 5
      have cf0 := (g_c).frozen 0
      have cf1 := (g_c).frozen 1
      have cf2 := (g_c).frozen 2
      have cf3 := (g_c).frozen 3
      have cf4 := (g_c).frozen 4
      have cf5 := (g_c).frozen 5
      have cl := (g_c).lt
      replace g_f := Lib.hid g_f
      replace g_d := Lib.hid g_d
      replace g_c := Lib.hid g_c
      replace hB := Lib.hid hB
      rcases hk with rfl | rfl | rfl
      · skip
        go_upto_region 8 with fail
        go_cut [10] (fun s10 wx => s10 = .bool (p1 && y) ∧ ∃ d, wx = Grow wr d)
        case first =>
          have hp := hp1.out
          clear hpy1
          cases y <;> cases p1
          all_goals (
            go_wp2_with (first | (go_at_call 15; first | ((with_reducible refine (grow_call (HD1.out _)).mono ?_); rintro e9 w9 ⟨rfl, dw, rfl⟩) | ((with_reducible refine (gro (HD1.out _)).mono ?_); rintro e9 w9 ⟨rfl, dw, rfl⟩) | ((with_reducible refine (grow_call (HC2.out _)).mono ?_); rintro e9 w9 ⟨rfl, dw, rfl⟩) | ((with_reducible refine (gro (HC2.out _)).mono ?_); rintro e9 w9 ⟨rfl, dw, rfl⟩)))
            go_meet
            exact ⟨rfl, _, rfl⟩)
        case rest =>
          obtain ⟨rfl, d8, rfl⟩ := hcut
          rw [hpy1.out]
          clear hpy1 hpy2 hp1 hp2
          have HP := HX1
          cases t1
          · skip
            by_cases k1 : v ≤ FF
            · have k1' : decide (v ≤ FF) = true := by simpa using k1
              go_wp2_with (first | (go_at_call 15; first | ((with_reducible refine (grow_call (HF1.out _)).mono ?_); rintro e9 w9 ⟨rfl, dw, rfl⟩) | ((with_reducible refine (gro (HF1.out _)).mono ?_); rintro e9 w9 ⟨rfl, dw, rfl⟩) | ((with_reducible refine (grow_call (HD2.out _)).mono ?_); rintro e9 w9 ⟨rfl, dw, rfl⟩) | ((with_reducible refine (gro (HD2.out _)).mono ?_); rintro e9 w9 ⟨rfl, dw, rfl⟩) | ((with_reducible refine (grow_call (HC1.out _)).mono ?_); rintro e9 w9 ⟨rfl, dw, rfl⟩) | ((with_reducible refine (gro (HC1.out _)).mono ?_); rintro e9 w9 ⟨rfl, dw, rfl⟩)) | (go_at_call 7; first | ((with_reducible refine (grow_call (HW.out _)).mono ?_); rintro e9 w9 ⟨rfl, dw, rfl⟩) | ((with_reducible refine (gro (HW.out _)).mono ?_); rintro e9 w9 ⟨rfl, dw, rfl⟩)))
              go_roundw
              case rel => exact ⟨2, Or.inr (Or.inl rfl), by go_num, by have t := hB.out; (repeat (first | with_reducible exact Below.refl _ _ | with_reducible assumption | (with_reducible refine bel_set ?_ (by first | exact Nat.le_refl _ | (simp; done) | (simp; omega) | omega) _) | with_reducible refine bel_grow ?_ _ | with_reducible refine Below.drew ?_ | with_reducible refine below_drewN ?_ _ | with_reducible refine bel_alloc ?_ _ | with_reducible refine bel_trans ?_ (by assumption))), by have t := g_f.out; (repeat (first | with_reducible assumption | (with_reducible refine Blk.new' ?_; first | with_reducible rfl | (simp; done)) | with_reducible refine Blk.alloc ?_ _ | with_reducible refine Blk.grow ?_ _ | with_reducible refine Blk.drew ?_ | with_reducible refine Blk.drewN ?_ _ | (with_reducible refine Blk.far ?_ (by first | (dsimp only; omega) | (simp; omega)) _) | (with_reducible apply Blk.two) | (with_reducible refine Blk.set' ?_ _ _ ?_) | (with_reducible rfl) | rfl)), by have t := g_d.out; (repeat (first | with_reducible assumption | (with_reducible refine Blk.new' ?_; first | with_reducible rfl | (simp; done)) | with_reducible refine Blk.alloc ?_ _ | with_reducible refine Blk.grow ?_ _ | with_reducible refine Blk.drew ?_ | with_reducible refine Blk.drewN ?_ _ | (with_reducible refine Blk.far ?_ (by first | (dsimp only; omega) | (simp; omega)) _) | (with_reducible apply Blk.two) | (with_reducible refine Blk.set' ?_ _ _ ?_) | (with_reducible rfl) | rfl)), by have t := g_c.out; (repeat (first | with_reducible assumption | (with_reducible refine Blk.new' ?_; first | with_reducible rfl | (simp; done)) | with_reducible refine Blk.alloc ?_ _ | with_reducible refine Blk.grow ?_ _ | with_reducible refine Blk.drew ?_ | with_reducible refine Blk.drewN ?_ _ | (with_reducible refine Blk.far ?_ (by first | (dsimp only; omega) | (simp; omega)) _) | (with_reducible apply Blk.two) | (with_reducible refine Blk.set' ?_ _ _ ?_) | (with_reducible rfl) | rfl))⟩
              case measure => simp [intOf]
            by_cases k2 : TT < v
            · have k1' : decide (v ≤ FF) = false := by simpa using k1
              have k2' : decide (TT < v) = true := by simpa using k2
              go_wp2_with (first | (go_at_call 15; first | ((with_reducible refine (grow_call (HF1.out _)).mono ?_); rintro e9 w9 ⟨rfl, dw, rfl⟩) | ((with_reducible refine (gro (HF1.out _)).mono ?_); rintro e9 w9 ⟨rfl, dw, rfl⟩) | ((with_reducible refine (grow_call (HD2.out _)).mono ?_); rintro e9 w9 ⟨rfl, dw, rfl⟩) | ((with_reducible refine (gro (HD2.out _)).mono ?_); rintro e9 w9 ⟨rfl, dw, rfl⟩) | ((with_reducible refine (grow_call (HC1.out _)).mono ?_); rintro e9 w9 ⟨rfl, dw, rfl⟩) | ((with_reducible refine (gro (HC1.out _)).mono ?_); rintro e9 w9 ⟨rfl, dw, rfl⟩)) | (go_at_call 7; first | ((with_reducible refine (grow_call (HW.out _)).mono ?_); rintro e9 w9 ⟨rfl, dw, rfl⟩) | ((with_reducible refine (gro (HW.out _)).mono ?_); rintro e9 w9 ⟨rfl, dw, rfl⟩)))
              go_roundw
              case rel => exact ⟨2, Or.inr (Or.inl rfl), by go_num, by have t := hB.out; (repeat (first | with_reducible exact Below.refl _ _ | with_reducible assumption | (with_reducible refine bel_set ?_ (by first | exact Nat.le_refl _ | (simp; done) | (simp; omega) | omega) _) | with_reducible refine bel_grow ?_ _ | with_reducible refine Below.drew ?_ | with_reducible refine below_drewN ?_ _ | with_reducible refine bel_alloc ?_ _ | with_reducible refine bel_trans ?_ (by assumption))), by have t := g_f.out; (repeat (first | with_reducible assumption | (with_reducible refine Blk.new' ?_; first | with_reducible rfl | (simp; done)) | with_reducible refine Blk.alloc ?_ _ | with_reducible refine Blk.grow ?_ _ | with_reducible refine Blk.drew ?_ | with_reducible refine Blk.drewN ?_ _ | (with_reducible refine Blk.far ?_ (by first | (dsimp only; omega) | (simp; omega)) _) | (with_reducible apply Blk.two) | (with_reducible refine Blk.set' ?_ _ _ ?_) | (with_reducible rfl) | rfl)), by have t := g_d.out; (repeat (first | with_reducible assumption | (with_reducible refine Blk.new' ?_; first | with_reducible rfl | (simp; done)) | with_reducible refine Blk.alloc ?_ _ | with_reducible refine Blk.grow ?_ _ | with_reducible refine Blk.drew ?_ | with_reducible refine Blk.drewN ?_ _ | (with_reducible refine Blk.far ?_ (by first | (dsimp only; omega) | (simp; omega)) _) | (with_reducible apply Blk.two) | (with_reducible refine Blk.set' ?_ _ _ ?_) | (with_reducible rfl) | rfl)), by have t := g_c.out; (repeat (first | with_reducible assumption | (with_reducible refine Blk.new' ?_; first | with_reducible rfl | (simp; done)) | with_reducible refine Blk.alloc ?_ _ | with_reducible refine Blk.grow ?_ _ | with_reducible refine Blk.drew ?_ | with_reducible refine Blk.drewN ?_ _ | (with_reducible refine Blk.far ?_ (by first | (dsimp only; omega) | (simp; omega)) _) | (with_reducible apply Blk.two) | (with_reducible refine Blk.set' ?_ _ _ ?_) | (with_reducible rfl) | rfl))⟩
              case measure => simp [intOf]
            have k1' : decide (v ≤ FF) = false := by simpa using k1
            have k2' : decide (TT < v) = false := by simpa using k2
            have hl' := Lib.hid (hl.out (by omega))
            have hh' := Lib.hid (hh.out (by omega) (by omega))
            have hw0 : 0 ≤ v - 1 ∧ v - 1 < 18446744073709551616 := by omega
            go_upto_region 13 with (first | (go_at_call 15; first | ((with_reducible refine (grow_call (HF1.out _)).mono ?_); rintro e9 w9 ⟨rfl, dw, rfl⟩) | ((with_reducible refine (gro (HF1.out _)).mono ?_); rintro e9 w9 ⟨rfl, dw, rfl⟩) | ((with_reducible refine (grow_call (HD2.out _)).mono ?_); rintro e9 w9 ⟨rfl, dw, rfl⟩) | ((with_reducible refine (gro (HD2.out _)).mono ?_); rintro e9 w9 ⟨rfl, dw, rfl⟩) | ((with_reducible refine (grow_call (HC1.out _)).mono ?_); rintro e9 w9 ⟨rfl, dw, rfl⟩) | ((with_reducible refine (gro (HC1.out _)).mono ?_); rintro e9 w9 ⟨rfl, dw, rfl⟩)) | (go_at_call 7; first | ((with_reducible refine (grow_call (HW.out _)).mono ?_); rintro e9 w9 ⟨rfl, dw, rfl⟩) | ((with_reducible refine (gro (HW.out _)).mono ?_); rintro e9 w9 ⟨rfl, dw, rfl⟩)))
            go_cut [13, 14] (fun s13 s14 wx => ∃ lo hi, s13 = .pointer (some ⟨lo, 0, none⟩) ∧ s14 = .pointer (some ⟨hi, 0, none⟩) ∧ w.heap.size < lo ∧ w.heap.size < hi ∧ lo ≠ hi ∧ pd ≠ lo ∧ pd ≠ hi ∧ pc ≠ lo ∧ pc ≠ hi ∧ Blk wx lo 27 #[.int .u64 a, .int .u64 b, .int .u64 c, .int .u64 d, .int .u32 e, .int .u32 f] ∧ Blk wx hi 27 #[.int .u64 a, .int .u64 b, .int .u64 c, .int .u64 d, .int .u32 e, .int .u32 f] ∧ Below w.heap.size w wx ∧ Blk wx w.heap.size 27 #[.int .u64 a, .int .u64 b, .int .u64 c, .int .u64 d, .int .u32 e, .int .u32 f] ∧ Blk wx pd 27 #[.int .u64 a, .int .u64 b, .int .u64 c, .int .u64 d, .int .u32 e, .int .u32 1] ∧ Blk wx pc 27 #[.int .u64 a, .int .u64 b, .int .u64 c, .int .u64 d, .int .u32 e, .int .u32 2])
            case first =>
              generalize hG : Grow wr _ = G at *
              have z9 : Below wr.heap.size wr G := hG ▸ grow_below _ _
              clear hG
              have z8 := z9.size
              have hB' := Lib.hid (bel_eld hB.out z9)
              have q_f := g_f.out.kept z9
              have q_d := g_d.out.kept z9
              have q_c := g_c.out.kept z9
              clear hB g_f g_d g_c f0 f1 f2 f3 f4 f5 ff0 ff1 ff2 ff3 ff4 ff5 fl d0 d1 d2 d3 d4 d5 df0 df1 df2 df3 df4 df5 dl c0 c1 c2 c3 c4 c5 cf0 cf1 cf2 cf3 cf4 cf5 cl z9
              have f0 := (q_f).cell 0
              have f1 := (q_f).cell 1
              have f2 := (q_f).cell 2
              have f3 := (q_f).cell 3
              have f4 := (q_f).cell 4
              have f5 := (q_f).cell 5
              have ff0 := (q_f).frozen 0
              have ff1 := (q_f).frozen 1
              have ff2 := (q_f).frozen 2
              have ff3 := (q_f).frozen 3
              have ff4 := (q_f).frozen 4
              have ff5 := (q_f).frozen 5
              have fl := (q_f).lt
              have dl := q_d.lt
              have cl := q_c.lt
              replace q_f := Lib.hid q_f
              replace q_d := Lib.hid q_d
              replace q_c := Lib.hid q_c
              go_region
              all_goals (
                go_wp2_with fail
                go_meet
                have tB := hB'.out
                have tf := q_f.out
                have td := q_d.out
                have tc := q_c.out
                exact ⟨_, _, rfl, rfl, by first | omega | (simp; omega), by first | omega | (simp; omega), by first | omega | (simp; omega) | simp, by first | omega | (simp; omega), by first | omega | (simp; omega), by first | omega | (simp; omega), by first | omega | (simp; omega), by (repeat (first | with_reducible assumption | (with_reducible refine Blk.new' ?_; first | with_reducible rfl | (simp; done)) | with_reducible refine Blk.alloc ?_ _ | with_reducible refine Blk.grow ?_ _ | with_reducible refine Blk.drew ?_ | with_reducible refine Blk.drewN ?_ _ | (with_reducible refine Blk.far ?_ (by first | (dsimp only; omega) | (simp; omega)) _) | (with_reducible apply Blk.two) | (with_reducible refine Blk.set' ?_ _ _ ?_) | (with_reducible rfl) | rfl)), by (repeat (first | with_reducible assumption | (with_reducible refine Blk.new' ?_; first | with_reducible rfl | (simp; done)) | with_reducible refine Blk.alloc ?_ _ | with_reducible refine Blk.grow ?_ _ | with_reducible refine Blk.drew ?_ | with_reducible refine Blk.drewN ?_ _ | (with_reducible refine Blk.far ?_ (by first | (dsimp only; omega) | (simp; omega)) _) | (with_reducible apply Blk.two) | (with_reducible refine Blk.set' ?_ _ _ ?_) | (with_reducible rfl) | rfl)), by (repeat (first | with_reducible exact Below.refl _ _ | with_reducible assumption | (with_reducible refine bel_set ?_ (by first | exact Nat.le_refl _ | (simp; done) | (simp; omega) | omega) _) | with_reducible refine bel_grow ?_ _ | with_reducible refine Below.drew ?_ | with_reducible refine below_drewN ?_ _ | with_reducible refine bel_alloc ?_ _ | with_reducible refine bel_trans ?_ (by assumption))), by (repeat (first | with_reducible assumption | (with_reducible refine Blk.new' ?_; first | with_reducible rfl | (simp; done)) | with_reducible refine Blk.alloc ?_ _ | with_reducible refine Blk.grow ?_ _ | with_reducible refine Blk.drew ?_ | with_reducible refine Blk.drewN ?_ _ | (with_reducible refine Blk.far ?_ (by first | (dsimp only; omega) | (simp; omega)) _) | (with_reducible apply Blk.two) | (with_reducible refine Blk.set' ?_ _ _ ?_) | (with_reducible rfl) | rfl)), by (repeat (first | with_reducible assumption | (with_reducible refine Blk.new' ?_; first | with_reducible rfl | (simp; done)) | with_reducible refine Blk.alloc ?_ _ | with_reducible refine Blk.grow ?_ _ | with_reducible refine Blk.drew ?_ | with_reducible refine Blk.drewN ?_ _ | (with_reducible refine Blk.far ?_ (by first | (dsimp only; omega) | (simp; omega)) _) | (with_reducible apply Blk.two) | (with_reducible refine Blk.set' ?_ _ _ ?_) | (with_reducible rfl) | rfl)), by (repeat (first | with_reducible assumption | (with_reducible refine Blk.new' ?_; first | with_reducible rfl | (simp; done)) | with_reducible refine Blk.alloc ?_ _ | with_reducible refine Blk.grow ?_ _ | with_reducible refine Blk.drew ?_ | with_reducible refine Blk.drewN ?_ _ | (with_reducible refine Blk.far ?_ (by first | (dsimp only; omega) | (simp; omega)) _) | (with_reducible apply Blk.two) | (with_reducible refine Blk.set' ?_ _ _ ?_) | (with_reducible rfl) | rfl))⟩)
            case rest =>
              clear hB g_f g_d g_c f0 f1 f2 f3 f4 f5 ff0 ff1 ff2 ff3 ff4 ff5 fl d0 d1 d2 d3 d4 d5 df0 df1 df2 df3 df4 df5 dl c0 c1 c2 c3 c4 c5 cf0 cf1 cf2 cf3 cf4 cf5 cl
              obtain ⟨lo, hi, rfl, rfl, l1, l2, l3, l4, l5, l6, l7, q_l, q_h, hB, g_f, g_d, g_c⟩ := hcut
              have f0 := (g_f).cell 0
              have f1 := (g_f).cell 1
              have f2 := (g_f).cell 2
              have f3 := (g_f).cell 3
              have f4 := (g_f).cell 4
              have f5 := (g_f).cell 5
              have ff0 := (g_f).frozen 0
              have ff1 := (g_f).frozen 1
              have ff2 := (g_f).frozen 2
              have ff3 := (g_f).frozen 3
              have ff4 := (g_f).frozen 4
              have ff5 := (g_f).frozen 5
              have fl := (g_f).lt
              have lo_0 := (q_l).cell 0
              have lo_1 := (q_l).cell 1
              have lo_2 := (q_l).cell 2
              have lo_3 := (q_l).cell 3
              have lo_4 := (q_l).cell 4
              have lo_5 := (q_l).cell 5
              have lo_f0 := (q_l).frozen 0
              have lo_f1 := (q_l).frozen 1
              have lo_f2 := (q_l).frozen 2
              have lo_f3 := (q_l).frozen 3
              have lo_f4 := (q_l).frozen 4
              have lo_f5 := (q_l).frozen 5
              have lo_l := (q_l).lt
              have hi_0 := (q_h).cell 0
              have hi_1 := (q_h).cell 1
              have hi_2 := (q_h).cell 2
              have hi_3 := (q_h).cell 3
              have hi_4 := (q_h).cell 4
              have hi_5 := (q_h).cell 5
              have hi_f0 := (q_h).frozen 0
              have hi_f1 := (q_h).frozen 1
              have hi_f2 := (q_h).frozen 2
              have hi_f3 := (q_h).frozen 3
              have hi_f4 := (q_h).frozen 4
              have hi_f5 := (q_h).frozen 5
              have hi_l := (q_h).lt
              have dl := g_d.lt
              have cl := g_c.lt
              replace hB := Lib.hid hB
              replace g_f := Lib.hid g_f
              replace g_d := Lib.hid g_d
              replace g_c := Lib.hid g_c
              clear q_l q_h
              by_cases k3 : v - 1 = 0
              · have k3' : (v - 1 == 0) = true := by simpa using k3
                have k3'' := Lib.hid k3
                clear k3
                go_wp2_with fail
                go_roundw
                case rel => exact ⟨2, Or.inr (Or.inl rfl), by go_num, by have t := hB.out; (repeat (first | with_reducible exact Below.refl _ _ | with_reducible assumption | (with_reducible refine bel_set ?_ (by first | exact Nat.le_refl _ | (simp; done) | (simp; omega) | omega) _) | with_reducible refine bel_grow ?_ _ | with_reducible refine Below.drew ?_ | with_reducible refine below_drewN ?_ _ | with_reducible refine bel_alloc ?_ _ | with_reducible refine bel_trans ?_ (by assumption))), by have t := g_f.out; (repeat (first | with_reducible assumption | (with_reducible refine Blk.new' ?_; first | with_reducible rfl | (simp; done)) | with_reducible refine Blk.alloc ?_ _ | with_reducible refine Blk.grow ?_ _ | with_reducible refine Blk.drew ?_ | with_reducible refine Blk.drewN ?_ _ | (with_reducible refine Blk.far ?_ (by first | (dsimp only; omega) | (simp; omega)) _) | (with_reducible apply Blk.two) | (with_reducible refine Blk.set' ?_ _ _ ?_) | (with_reducible rfl) | rfl)), by have t := g_d.out; (repeat (first | with_reducible assumption | (with_reducible refine Blk.new' ?_; first | with_reducible rfl | (simp; done)) | with_reducible refine Blk.alloc ?_ _ | with_reducible refine Blk.grow ?_ _ | with_reducible refine Blk.drew ?_ | with_reducible refine Blk.drewN ?_ _ | (with_reducible refine Blk.far ?_ (by first | (dsimp only; omega) | (simp; omega)) _) | (with_reducible apply Blk.two) | (with_reducible refine Blk.set' ?_ _ _ ?_) | (with_reducible rfl) | rfl)), by have t := g_c.out; (repeat (first | with_reducible assumption | (with_reducible refine Blk.new' ?_; first | with_reducible rfl | (simp; done)) | with_reducible refine Blk.alloc ?_ _ | with_reducible refine Blk.grow ?_ _ | with_reducible refine Blk.drew ?_ | with_reducible refine Blk.drewN ?_ _ | (with_reducible refine Blk.far ?_ (by first | (dsimp only; omega) | (simp; omega)) _) | (with_reducible apply Blk.two) | (with_reducible refine Blk.set' ?_ _ _ ?_) | (with_reducible rfl) | rfl))⟩
                case measure => simp [intOf]
              have k3' : (v - 1 == 0) = false := by simpa using k3
              rcases HP.out (by omega) (by omega) k3 with ⟨e1, e2, e3⟩ | ⟨e1, e2, e3⟩ | ⟨e1, e2, e3⟩
              · cases e3
              · cases e3
              · have HLo := Lib.hid (fun w => takes_is (a := a) (b := b) (c := c) (d := v - 1) (e := e) (f := f) (s := s) (g := 1) (y := false) (Or.inl rfl) hl'.out e1 w)
                have HHi := Lib.hid (fun w => takes_is (a := a) (b := b) (c := v) (d := d) (e := e) (f := f) (s := s) (g := 1) (y := false) (Or.inl rfl) hh'.out e2 w)
                replace k3 := Lib.hid k3
                clear e1 e2 e3 HP hl' hh' HX1 HX2
                go_wp2_with fail
                first | (with_reducible refine rgrow2 (by kernel_rfl) (by kernel_rfl) ?_) | (refine rgrow (by kernel_rfl) (by kernel_rfl) ?_)
                repeat (go_big_quiet_step (((go_at_call 15; first | (with_reducible exact grow_call (HF1.out _)) | (with_reducible exact grow_call (HLo.out _)) | (with_reducible exact grow_call (HHi.out _))))))
                refine wpQuiet_nil ?_
                intro dr
                go_wp2_with fail
                go_roundw
                case rel => exact ⟨2, Or.inr (Or.inl rfl), by go_num, by have t := hB.out; (repeat (first | with_reducible exact Below.refl _ _ | with_reducible assumption | (with_reducible refine bel_set ?_ (by first | exact Nat.le_refl _ | (simp; done) | (simp; omega) | omega) _) | with_reducible refine bel_grow ?_ _ | with_reducible refine Below.drew ?_ | with_reducible refine below_drewN ?_ _ | with_reducible refine bel_alloc ?_ _ | with_reducible refine bel_trans ?_ (by assumption))), by have t := g_f.out; (repeat (first | with_reducible assumption | (with_reducible refine Blk.new' ?_; first | with_reducible rfl | (simp; done)) | with_reducible refine Blk.alloc ?_ _ | with_reducible refine Blk.grow ?_ _ | with_reducible refine Blk.drew ?_ | with_reducible refine Blk.drewN ?_ _ | (with_reducible refine Blk.far ?_ (by first | (dsimp only; omega) | (simp; omega)) _) | (with_reducible apply Blk.two) | (with_reducible refine Blk.set' ?_ _ _ ?_) | (with_reducible rfl) | rfl)), by have t := g_d.out; (repeat (first | with_reducible assumption | (with_reducible refine Blk.new' ?_; first | with_reducible rfl | (simp; done)) | with_reducible refine Blk.alloc ?_ _ | with_reducible refine Blk.grow ?_ _ | with_reducible refine Blk.drew ?_ | with_reducible refine Blk.drewN ?_ _ | (with_reducible refine Blk.far ?_ (by first | (dsimp only; omega) | (simp; omega)) _) | (with_reducible apply Blk.two) | (with_reducible refine Blk.set' ?_ _ _ ?_) | (with_reducible rfl) | rfl)), by have t := g_c.out; (repeat (first | with_reducible assumption | (with_reducible refine Blk.new' ?_; first | with_reducible rfl | (simp; done)) | with_reducible refine Blk.alloc ?_ _ | with_reducible refine Blk.grow ?_ _ | with_reducible refine Blk.drew ?_ | with_reducible refine Blk.drewN ?_ _ | (with_reducible refine Blk.far ?_ (by first | (dsimp only; omega) | (simp; omega)) _) | (with_reducible apply Blk.two) | (with_reducible refine Blk.set' ?_ _ _ ?_) | (with_reducible rfl) | rfl))⟩
                case measure => simp [intOf]
          · skip
            by_cases k1 : v ≤ FF
            · have k1' : decide (v ≤ FF) = true := by simpa using k1
              go_wp2_with (first | (go_at_call 15; first | ((with_reducible refine (grow_call (HF1.out _)).mono ?_); rintro e9 w9 ⟨rfl, dw, rfl⟩) | ((with_reducible refine (gro (HF1.out _)).mono ?_); rintro e9 w9 ⟨rfl, dw, rfl⟩) | ((with_reducible refine (grow_call (HD2.out _)).mono ?_); rintro e9 w9 ⟨rfl, dw, rfl⟩) | ((with_reducible refine (gro (HD2.out _)).mono ?_); rintro e9 w9 ⟨rfl, dw, rfl⟩) | ((with_reducible refine (grow_call (HC1.out _)).mono ?_); rintro e9 w9 ⟨rfl, dw, rfl⟩) | ((with_reducible refine (gro (HC1.out _)).mono ?_); rintro e9 w9 ⟨rfl, dw, rfl⟩)) | (go_at_call 7; first | ((with_reducible refine (grow_call (HW.out _)).mono ?_); rintro e9 w9 ⟨rfl, dw, rfl⟩) | ((with_reducible refine (gro (HW.out _)).mono ?_); rintro e9 w9 ⟨rfl, dw, rfl⟩)))
              go_roundw
              case rel => exact ⟨2, Or.inr (Or.inl rfl), by go_num, by have t := hB.out; (repeat (first | with_reducible exact Below.refl _ _ | with_reducible assumption | (with_reducible refine bel_set ?_ (by first | exact Nat.le_refl _ | (simp; done) | (simp; omega) | omega) _) | with_reducible refine bel_grow ?_ _ | with_reducible refine Below.drew ?_ | with_reducible refine below_drewN ?_ _ | with_reducible refine bel_alloc ?_ _ | with_reducible refine bel_trans ?_ (by assumption))), by have t := g_f.out; (repeat (first | with_reducible assumption | (with_reducible refine Blk.new' ?_; first | with_reducible rfl | (simp; done)) | with_reducible refine Blk.alloc ?_ _ | with_reducible refine Blk.grow ?_ _ | with_reducible refine Blk.drew ?_ | with_reducible refine Blk.drewN ?_ _ | (with_reducible refine Blk.far ?_ (by first | (dsimp only; omega) | (simp; omega)) _) | (with_reducible apply Blk.two) | (with_reducible refine Blk.set' ?_ _ _ ?_) | (with_reducible rfl) | rfl)), by have t := g_d.out; (repeat (first | with_reducible assumption | (with_reducible refine Blk.new' ?_; first | with_reducible rfl | (simp; done)) | with_reducible refine Blk.alloc ?_ _ | with_reducible refine Blk.grow ?_ _ | with_reducible refine Blk.drew ?_ | with_reducible refine Blk.drewN ?_ _ | (with_reducible refine Blk.far ?_ (by first | (dsimp only; omega) | (simp; omega)) _) | (with_reducible apply Blk.two) | (with_reducible refine Blk.set' ?_ _ _ ?_) | (with_reducible rfl) | rfl)), by have t := g_c.out; (repeat (first | with_reducible assumption | (with_reducible refine Blk.new' ?_; first | with_reducible rfl | (simp; done)) | with_reducible refine Blk.alloc ?_ _ | with_reducible refine Blk.grow ?_ _ | with_reducible refine Blk.drew ?_ | with_reducible refine Blk.drewN ?_ _ | (with_reducible refine Blk.far ?_ (by first | (dsimp only; omega) | (simp; omega)) _) | (with_reducible apply Blk.two) | (with_reducible refine Blk.set' ?_ _ _ ?_) | (with_reducible rfl) | rfl))⟩
              case measure => simp [intOf]
            by_cases k2 : TT < v
            · have k1' : decide (v ≤ FF) = false := by simpa using k1
              have k2' : decide (TT < v) = true := by simpa using k2
              go_wp2_with (first | (go_at_call 15; first | ((with_reducible refine (grow_call (HF1.out _)).mono ?_); rintro e9 w9 ⟨rfl, dw, rfl⟩) | ((with_reducible refine (gro (HF1.out _)).mono ?_); rintro e9 w9 ⟨rfl, dw, rfl⟩) | ((with_reducible refine (grow_call (HD2.out _)).mono ?_); rintro e9 w9 ⟨rfl, dw, rfl⟩) | ((with_reducible refine (gro (HD2.out _)).mono ?_); rintro e9 w9 ⟨rfl, dw, rfl⟩) | ((with_reducible refine (grow_call (HC1.out _)).mono ?_); rintro e9 w9 ⟨rfl, dw, rfl⟩) | ((with_reducible refine (gro (HC1.out _)).mono ?_); rintro e9 w9 ⟨rfl, dw, rfl⟩)) | (go_at_call 7; first | ((with_reducible refine (grow_call (HW.out _)).mono ?_); rintro e9 w9 ⟨rfl, dw, rfl⟩) | ((with_reducible refine (gro (HW.out _)).mono ?_); rintro e9 w9 ⟨rfl, dw, rfl⟩)))
              go_roundw
              case rel => exact ⟨2, Or.inr (Or.inl rfl), by go_num, by have t := hB.out; (repeat (first | with_reducible exact Below.refl _ _ | with_reducible assumption | (with_reducible refine bel_set ?_ (by first | exact Nat.le_refl _ | (simp; done) | (simp; omega) | omega) _) | with_reducible refine bel_grow ?_ _ | with_reducible refine Below.drew ?_ | with_reducible refine below_drewN ?_ _ | with_reducible refine bel_alloc ?_ _ | with_reducible refine bel_trans ?_ (by assumption))), by have t := g_f.out; (repeat (first | with_reducible assumption | (with_reducible refine Blk.new' ?_; first | with_reducible rfl | (simp; done)) | with_reducible refine Blk.alloc ?_ _ | with_reducible refine Blk.grow ?_ _ | with_reducible refine Blk.drew ?_ | with_reducible refine Blk.drewN ?_ _ | (with_reducible refine Blk.far ?_ (by first | (dsimp only; omega) | (simp; omega)) _) | (with_reducible apply Blk.two) | (with_reducible refine Blk.set' ?_ _ _ ?_) | (with_reducible rfl) | rfl)), by have t := g_d.out; (repeat (first | with_reducible assumption | (with_reducible refine Blk.new' ?_; first | with_reducible rfl | (simp; done)) | with_reducible refine Blk.alloc ?_ _ | with_reducible refine Blk.grow ?_ _ | with_reducible refine Blk.drew ?_ | with_reducible refine Blk.drewN ?_ _ | (with_reducible refine Blk.far ?_ (by first | (dsimp only; omega) | (simp; omega)) _) | (with_reducible apply Blk.two) | (with_reducible refine Blk.set' ?_ _ _ ?_) | (with_reducible rfl) | rfl)), by have t := g_c.out; (repeat (first | with_reducible assumption | (with_reducible refine Blk.new' ?_; first | with_reducible rfl | (simp; done)) | with_reducible refine Blk.alloc ?_ _ | with_reducible refine Blk.grow ?_ _ | with_reducible refine Blk.drew ?_ | with_reducible refine Blk.drewN ?_ _ | (with_reducible refine Blk.far ?_ (by first | (dsimp only; omega) | (simp; omega)) _) | (with_reducible apply Blk.two) | (with_reducible refine Blk.set' ?_ _ _ ?_) | (with_reducible rfl) | rfl))⟩
              case measure => simp [intOf]
            have k1' : decide (v ≤ FF) = false := by simpa using k1
            have k2' : decide (TT < v) = false := by simpa using k2
            have hl' := Lib.hid (hl.out (by omega))
            have hh' := Lib.hid (hh.out (by omega) (by omega))
            have hw0 : 0 ≤ v - 1 ∧ v - 1 < 18446744073709551616 := by omega
            go_upto_region 13 with (first | (go_at_call 15; first | ((with_reducible refine (grow_call (HF1.out _)).mono ?_); rintro e9 w9 ⟨rfl, dw, rfl⟩) | ((with_reducible refine (gro (HF1.out _)).mono ?_); rintro e9 w9 ⟨rfl, dw, rfl⟩) | ((with_reducible refine (grow_call (HD2.out _)).mono ?_); rintro e9 w9 ⟨rfl, dw, rfl⟩) | ((with_reducible refine (gro (HD2.out _)).mono ?_); rintro e9 w9 ⟨rfl, dw, rfl⟩) | ((with_reducible refine (grow_call (HC1.out _)).mono ?_); rintro e9 w9 ⟨rfl, dw, rfl⟩) | ((with_reducible refine (gro (HC1.out _)).mono ?_); rintro e9 w9 ⟨rfl, dw, rfl⟩)) | (go_at_call 7; first | ((with_reducible refine (grow_call (HW.out _)).mono ?_); rintro e9 w9 ⟨rfl, dw, rfl⟩) | ((with_reducible refine (gro (HW.out _)).mono ?_); rintro e9 w9 ⟨rfl, dw, rfl⟩)))
            go_cut [13, 14] (fun s13 s14 wx => ∃ lo hi, s13 = .pointer (some ⟨lo, 0, none⟩) ∧ s14 = .pointer (some ⟨hi, 0, none⟩) ∧ w.heap.size < lo ∧ w.heap.size < hi ∧ lo ≠ hi ∧ pd ≠ lo ∧ pd ≠ hi ∧ pc ≠ lo ∧ pc ≠ hi ∧ Blk wx lo 27 #[.int .u64 a, .int .u64 b, .int .u64 c, .int .u64 d, .int .u32 e, .int .u32 f] ∧ Blk wx hi 27 #[.int .u64 a, .int .u64 b, .int .u64 c, .int .u64 d, .int .u32 e, .int .u32 f] ∧ Below w.heap.size w wx ∧ Blk wx w.heap.size 27 #[.int .u64 a, .int .u64 b, .int .u64 c, .int .u64 d, .int .u32 e, .int .u32 f] ∧ Blk wx pd 27 #[.int .u64 a, .int .u64 b, .int .u64 c, .int .u64 d, .int .u32 e, .int .u32 1] ∧ Blk wx pc 27 #[.int .u64 a, .int .u64 b, .int .u64 c, .int .u64 d, .int .u32 e, .int .u32 2])
            case first =>
              generalize hG : Grow wr _ = G at *
              have z9 : Below wr.heap.size wr G := hG ▸ grow_below _ _
              clear hG
              have z8 := z9.size
              have hB' := Lib.hid (bel_eld hB.out z9)
              have q_f := g_f.out.kept z9
              have q_d := g_d.out.kept z9
              have q_c := g_c.out.kept z9
              clear hB g_f g_d g_c f0 f1 f2 f3 f4 f5 ff0 ff1 ff2 ff3 ff4 ff5 fl d0 d1 d2 d3 d4 d5 df0 df1 df2 df3 df4 df5 dl c0 c1 c2 c3 c4 c5 cf0 cf1 cf2 cf3 cf4 cf5 cl z9
              have f0 := (q_f).cell 0
              have f1 := (q_f).cell 1
              have f2 := (q_f).cell 2
              have f3 := (q_f).cell 3
              have f4 := (q_f).cell 4
              have f5 := (q_f).cell 5
              have ff0 := (q_f).frozen 0
              have ff1 := (q_f).frozen 1
              have ff2 := (q_f).frozen 2
              have ff3 := (q_f).frozen 3
              have ff4 := (q_f).frozen 4
              have ff5 := (q_f).frozen 5
              have fl := (q_f).lt
              have dl := q_d.lt
              have cl := q_c.lt
              replace q_f := Lib.hid q_f
              replace q_d := Lib.hid q_d
              replace q_c := Lib.hid q_c
              go_region
              all_goals (
                go_wp2_with fail
                go_meet
                have tB := hB'.out
                have tf := q_f.out
                have td := q_d.out
                have tc := q_c.out
                exact ⟨_, _, rfl, rfl, by first | omega | (simp; omega), by first | omega | (simp; omega), by first | omega | (simp; omega) | simp, by first | omega | (simp; omega), by first | omega | (simp; omega), by first | omega | (simp; omega), by first | omega | (simp; omega), by (repeat (first | with_reducible assumption | (with_reducible refine Blk.new' ?_; first | with_reducible rfl | (simp; done)) | with_reducible refine Blk.alloc ?_ _ | with_reducible refine Blk.grow ?_ _ | with_reducible refine Blk.drew ?_ | with_reducible refine Blk.drewN ?_ _ | (with_reducible refine Blk.far ?_ (by first | (dsimp only; omega) | (simp; omega)) _) | (with_reducible apply Blk.two) | (with_reducible refine Blk.set' ?_ _ _ ?_) | (with_reducible rfl) | rfl)), by (repeat (first | with_reducible assumption | (with_reducible refine Blk.new' ?_; first | with_reducible rfl | (simp; done)) | with_reducible refine Blk.alloc ?_ _ | with_reducible refine Blk.grow ?_ _ | with_reducible refine Blk.drew ?_ | with_reducible refine Blk.drewN ?_ _ | (with_reducible refine Blk.far ?_ (by first | (dsimp only; omega) | (simp; omega)) _) | (with_reducible apply Blk.two) | (with_reducible refine Blk.set' ?_ _ _ ?_) | (with_reducible rfl) | rfl)), by (repeat (first | with_reducible exact Below.refl _ _ | with_reducible assumption | (with_reducible refine bel_set ?_ (by first | exact Nat.le_refl _ | (simp; done) | (simp; omega) | omega) _) | with_reducible refine bel_grow ?_ _ | with_reducible refine Below.drew ?_ | with_reducible refine below_drewN ?_ _ | with_reducible refine bel_alloc ?_ _ | with_reducible refine bel_trans ?_ (by assumption))), by (repeat (first | with_reducible assumption | (with_reducible refine Blk.new' ?_; first | with_reducible rfl | (simp; done)) | with_reducible refine Blk.alloc ?_ _ | with_reducible refine Blk.grow ?_ _ | with_reducible refine Blk.drew ?_ | with_reducible refine Blk.drewN ?_ _ | (with_reducible refine Blk.far ?_ (by first | (dsimp only; omega) | (simp; omega)) _) | (with_reducible apply Blk.two) | (with_reducible refine Blk.set' ?_ _ _ ?_) | (with_reducible rfl) | rfl)), by (repeat (first | with_reducible assumption | (with_reducible refine Blk.new' ?_; first | with_reducible rfl | (simp; done)) | with_reducible refine Blk.alloc ?_ _ | with_reducible refine Blk.grow ?_ _ | with_reducible refine Blk.drew ?_ | with_reducible refine Blk.drewN ?_ _ | (with_reducible refine Blk.far ?_ (by first | (dsimp only; omega) | (simp; omega)) _) | (with_reducible apply Blk.two) | (with_reducible refine Blk.set' ?_ _ _ ?_) | (with_reducible rfl) | rfl)), by (repeat (first | with_reducible assumption | (with_reducible refine Blk.new' ?_; first | with_reducible rfl | (simp; done)) | with_reducible refine Blk.alloc ?_ _ | with_reducible refine Blk.grow ?_ _ | with_reducible refine Blk.drew ?_ | with_reducible refine Blk.drewN ?_ _ | (with_reducible refine Blk.far ?_ (by first | (dsimp only; omega) | (simp; omega)) _) | (with_reducible apply Blk.two) | (with_reducible refine Blk.set' ?_ _ _ ?_) | (with_reducible rfl) | rfl))⟩)
            case rest =>
              clear hB g_f g_d g_c f0 f1 f2 f3 f4 f5 ff0 ff1 ff2 ff3 ff4 ff5 fl d0 d1 d2 d3 d4 d5 df0 df1 df2 df3 df4 df5 dl c0 c1 c2 c3 c4 c5 cf0 cf1 cf2 cf3 cf4 cf5 cl
              obtain ⟨lo, hi, rfl, rfl, l1, l2, l3, l4, l5, l6, l7, q_l, q_h, hB, g_f, g_d, g_c⟩ := hcut
              have f0 := (g_f).cell 0
              have f1 := (g_f).cell 1
              have f2 := (g_f).cell 2
              have f3 := (g_f).cell 3
              have f4 := (g_f).cell 4
              have f5 := (g_f).cell 5
              have ff0 := (g_f).frozen 0
              have ff1 := (g_f).frozen 1
              have ff2 := (g_f).frozen 2
              have ff3 := (g_f).frozen 3
              have ff4 := (g_f).frozen 4
              have ff5 := (g_f).frozen 5
              have fl := (g_f).lt
              have lo_0 := (q_l).cell 0
              have lo_1 := (q_l).cell 1
              have lo_2 := (q_l).cell 2
              have lo_3 := (q_l).cell 3
              have lo_4 := (q_l).cell 4
              have lo_5 := (q_l).cell 5
              have lo_f0 := (q_l).frozen 0
              have lo_f1 := (q_l).frozen 1
              have lo_f2 := (q_l).frozen 2
              have lo_f3 := (q_l).frozen 3
              have lo_f4 := (q_l).frozen 4
              have lo_f5 := (q_l).frozen 5
              have lo_l := (q_l).lt
              have hi_0 := (q_h).cell 0
              have hi_1 := (q_h).cell 1
              have hi_2 := (q_h).cell 2
              have hi_3 := (q_h).cell 3
              have hi_4 := (q_h).cell 4
              have hi_5 := (q_h).cell 5
              have hi_f0 := (q_h).frozen 0
              have hi_f1 := (q_h).frozen 1
              have hi_f2 := (q_h).frozen 2
              have hi_f3 := (q_h).frozen 3
              have hi_f4 := (q_h).frozen 4
              have hi_f5 := (q_h).frozen 5
              have hi_l := (q_h).lt
              have dl := g_d.lt
              have cl := g_c.lt
              replace hB := Lib.hid hB
              replace g_f := Lib.hid g_f
              replace g_d := Lib.hid g_d
              replace g_c := Lib.hid g_c
              clear q_l q_h
              by_cases k3 : v - 1 = 0
              · have k3' : (v - 1 == 0) = true := by simpa using k3
                have k3'' := Lib.hid k3
                clear k3
                go_wp2_with fail
                go_roundw
                case rel => exact ⟨2, Or.inr (Or.inl rfl), by go_num, by have t := hB.out; (repeat (first | with_reducible exact Below.refl _ _ | with_reducible assumption | (with_reducible refine bel_set ?_ (by first | exact Nat.le_refl _ | (simp; done) | (simp; omega) | omega) _) | with_reducible refine bel_grow ?_ _ | with_reducible refine Below.drew ?_ | with_reducible refine below_drewN ?_ _ | with_reducible refine bel_alloc ?_ _ | with_reducible refine bel_trans ?_ (by assumption))), by have t := g_f.out; (repeat (first | with_reducible assumption | (with_reducible refine Blk.new' ?_; first | with_reducible rfl | (simp; done)) | with_reducible refine Blk.alloc ?_ _ | with_reducible refine Blk.grow ?_ _ | with_reducible refine Blk.drew ?_ | with_reducible refine Blk.drewN ?_ _ | (with_reducible refine Blk.far ?_ (by first | (dsimp only; omega) | (simp; omega)) _) | (with_reducible apply Blk.two) | (with_reducible refine Blk.set' ?_ _ _ ?_) | (with_reducible rfl) | rfl)), by have t := g_d.out; (repeat (first | with_reducible assumption | (with_reducible refine Blk.new' ?_; first | with_reducible rfl | (simp; done)) | with_reducible refine Blk.alloc ?_ _ | with_reducible refine Blk.grow ?_ _ | with_reducible refine Blk.drew ?_ | with_reducible refine Blk.drewN ?_ _ | (with_reducible refine Blk.far ?_ (by first | (dsimp only; omega) | (simp; omega)) _) | (with_reducible apply Blk.two) | (with_reducible refine Blk.set' ?_ _ _ ?_) | (with_reducible rfl) | rfl)), by have t := g_c.out; (repeat (first | with_reducible assumption | (with_reducible refine Blk.new' ?_; first | with_reducible rfl | (simp; done)) | with_reducible refine Blk.alloc ?_ _ | with_reducible refine Blk.grow ?_ _ | with_reducible refine Blk.drew ?_ | with_reducible refine Blk.drewN ?_ _ | (with_reducible refine Blk.far ?_ (by first | (dsimp only; omega) | (simp; omega)) _) | (with_reducible apply Blk.two) | (with_reducible refine Blk.set' ?_ _ _ ?_) | (with_reducible rfl) | rfl))⟩
                case measure => simp [intOf]
              have k3' : (v - 1 == 0) = false := by simpa using k3
              rcases HP.out (by omega) (by omega) k3 with ⟨e1, e2, e3⟩ | ⟨e1, e2, e3⟩ | ⟨e1, e2, e3⟩
              · have HLo := Lib.hid (fun w => takes_is (a := a) (b := b) (c := c) (d := v - 1) (e := e) (f := f) (s := s) (g := 1) (y := true) (Or.inl rfl) hl'.out e1 w)
                have HHi := Lib.hid (fun w => takes_is (a := a) (b := b) (c := v) (d := d) (e := e) (f := f) (s := s) (g := 1) (y := false) (Or.inl rfl) hh'.out e2 w)
                replace k3 := Lib.hid k3
                clear e1 e2 e3 HP hl' hh' HX1 HX2
                go_wp2_with fail
                first | (with_reducible refine rgrow2 (by kernel_rfl) (by kernel_rfl) ?_) | (refine rgrow (by kernel_rfl) (by kernel_rfl) ?_)
                repeat (go_big_quiet_step (((go_at_call 15; first | (with_reducible exact grow_call (HF1.out _)) | (with_reducible exact grow_call (HLo.out _)) | (with_reducible exact grow_call (HHi.out _))))))
                refine wpQuiet_nil ?_
                intro dr
                go_wp2_with fail
                go_roundw
                case rel => exact ⟨2, Or.inr (Or.inl rfl), by go_num, by have t := hB.out; (repeat (first | with_reducible exact Below.refl _ _ | with_reducible assumption | (with_reducible refine bel_set ?_ (by first | exact Nat.le_refl _ | (simp; done) | (simp; omega) | omega) _) | with_reducible refine bel_grow ?_ _ | with_reducible refine Below.drew ?_ | with_reducible refine below_drewN ?_ _ | with_reducible refine bel_alloc ?_ _ | with_reducible refine bel_trans ?_ (by assumption))), by have t := g_f.out; (repeat (first | with_reducible assumption | (with_reducible refine Blk.new' ?_; first | with_reducible rfl | (simp; done)) | with_reducible refine Blk.alloc ?_ _ | with_reducible refine Blk.grow ?_ _ | with_reducible refine Blk.drew ?_ | with_reducible refine Blk.drewN ?_ _ | (with_reducible refine Blk.far ?_ (by first | (dsimp only; omega) | (simp; omega)) _) | (with_reducible apply Blk.two) | (with_reducible refine Blk.set' ?_ _ _ ?_) | (with_reducible rfl) | rfl)), by have t := g_d.out; (repeat (first | with_reducible assumption | (with_reducible refine Blk.new' ?_; first | with_reducible rfl | (simp; done)) | with_reducible refine Blk.alloc ?_ _ | with_reducible refine Blk.grow ?_ _ | with_reducible refine Blk.drew ?_ | with_reducible refine Blk.drewN ?_ _ | (with_reducible refine Blk.far ?_ (by first | (dsimp only; omega) | (simp; omega)) _) | (with_reducible apply Blk.two) | (with_reducible refine Blk.set' ?_ _ _ ?_) | (with_reducible rfl) | rfl)), by have t := g_c.out; (repeat (first | with_reducible assumption | (with_reducible refine Blk.new' ?_; first | with_reducible rfl | (simp; done)) | with_reducible refine Blk.alloc ?_ _ | with_reducible refine Blk.grow ?_ _ | with_reducible refine Blk.drew ?_ | with_reducible refine Blk.drewN ?_ _ | (with_reducible refine Blk.far ?_ (by first | (dsimp only; omega) | (simp; omega)) _) | (with_reducible apply Blk.two) | (with_reducible refine Blk.set' ?_ _ _ ?_) | (with_reducible rfl) | rfl))⟩
                case measure => simp [intOf]
              · have HLo := Lib.hid (fun w => takes_is (a := a) (b := b) (c := c) (d := v - 1) (e := e) (f := f) (s := s) (g := 1) (y := false) (Or.inl rfl) hl'.out e1 w)
                have HHi := Lib.hid (fun w => takes_is (a := a) (b := b) (c := v) (d := d) (e := e) (f := f) (s := s) (g := 1) (y := true) (Or.inl rfl) hh'.out e2 w)
                replace k3 := Lib.hid k3
                clear e1 e2 e3 HP hl' hh' HX1 HX2
                go_wp2_with fail
                first | (with_reducible refine rgrow2 (by kernel_rfl) (by kernel_rfl) ?_) | (refine rgrow (by kernel_rfl) (by kernel_rfl) ?_)
                repeat (go_big_quiet_step (((go_at_call 15; first | (with_reducible exact grow_call (HF1.out _)) | (with_reducible exact grow_call (HLo.out _)) | (with_reducible exact grow_call (HHi.out _))))))
                refine wpQuiet_nil ?_
                intro dr
                go_wp2_with fail
                go_roundw
                case rel => exact ⟨2, Or.inr (Or.inl rfl), by go_num, by have t := hB.out; (repeat (first | with_reducible exact Below.refl _ _ | with_reducible assumption | (with_reducible refine bel_set ?_ (by first | exact Nat.le_refl _ | (simp; done) | (simp; omega) | omega) _) | with_reducible refine bel_grow ?_ _ | with_reducible refine Below.drew ?_ | with_reducible refine below_drewN ?_ _ | with_reducible refine bel_alloc ?_ _ | with_reducible refine bel_trans ?_ (by assumption))), by have t := g_f.out; (repeat (first | with_reducible assumption | (with_reducible refine Blk.new' ?_; first | with_reducible rfl | (simp; done)) | with_reducible refine Blk.alloc ?_ _ | with_reducible refine Blk.grow ?_ _ | with_reducible refine Blk.drew ?_ | with_reducible refine Blk.drewN ?_ _ | (with_reducible refine Blk.far ?_ (by first | (dsimp only; omega) | (simp; omega)) _) | (with_reducible apply Blk.two) | (with_reducible refine Blk.set' ?_ _ _ ?_) | (with_reducible rfl) | rfl)), by have t := g_d.out; (repeat (first | with_reducible assumption | (with_reducible refine Blk.new' ?_; first | with_reducible rfl | (simp; done)) | with_reducible refine Blk.alloc ?_ _ | with_reducible refine Blk.grow ?_ _ | with_reducible refine Blk.drew ?_ | with_reducible refine Blk.drewN ?_ _ | (with_reducible refine Blk.far ?_ (by first | (dsimp only; omega) | (simp; omega)) _) | (with_reducible apply Blk.two) | (with_reducible refine Blk.set' ?_ _ _ ?_) | (with_reducible rfl) | rfl)), by have t := g_c.out; (repeat (first | with_reducible assumption | (with_reducible refine Blk.new' ?_; first | with_reducible rfl | (simp; done)) | with_reducible refine Blk.alloc ?_ _ | with_reducible refine Blk.grow ?_ _ | with_reducible refine Blk.drew ?_ | with_reducible refine Blk.drewN ?_ _ | (with_reducible refine Blk.far ?_ (by first | (dsimp only; omega) | (simp; omega)) _) | (with_reducible apply Blk.two) | (with_reducible refine Blk.set' ?_ _ _ ?_) | (with_reducible rfl) | rfl))⟩
                case measure => simp [intOf]
              · cases e3
      · skip
        go_upto_region 8 with fail
        go_cut [10] (fun s10 wx => s10 = .bool (p2 && y) ∧ ∃ d, wx = Grow wr d)
        case first =>
          have hp := hp2.out
          clear hpy2
          cases y <;> cases p2
          all_goals (
            go_wp2_with (first | (go_at_call 15; first | ((with_reducible refine (grow_call (HD1.out _)).mono ?_); rintro e9 w9 ⟨rfl, dw, rfl⟩) | ((with_reducible refine (gro (HD1.out _)).mono ?_); rintro e9 w9 ⟨rfl, dw, rfl⟩) | ((with_reducible refine (grow_call (HC2.out _)).mono ?_); rintro e9 w9 ⟨rfl, dw, rfl⟩) | ((with_reducible refine (gro (HC2.out _)).mono ?_); rintro e9 w9 ⟨rfl, dw, rfl⟩)))
            go_meet
            exact ⟨rfl, _, rfl⟩)
        case rest =>
          obtain ⟨rfl, d8, rfl⟩ := hcut
          rw [hpy2.out]
          clear hpy1 hpy2 hp1 hp2
          have HP := HX2
          cases t2
          · skip
            by_cases k1 : v ≤ FF
            · have k1' : decide (v ≤ FF) = true := by simpa using k1
              go_wp2_with (first | (go_at_call 15; first | ((with_reducible refine (grow_call (HF2.out _)).mono ?_); rintro e9 w9 ⟨rfl, dw, rfl⟩) | ((with_reducible refine (gro (HF2.out _)).mono ?_); rintro e9 w9 ⟨rfl, dw, rfl⟩) | ((with_reducible refine (grow_call (HD2.out _)).mono ?_); rintro e9 w9 ⟨rfl, dw, rfl⟩) | ((with_reducible refine (gro (HD2.out _)).mono ?_); rintro e9 w9 ⟨rfl, dw, rfl⟩) | ((with_reducible refine (grow_call (HC1.out _)).mono ?_); rintro e9 w9 ⟨rfl, dw, rfl⟩) | ((with_reducible refine (gro (HC1.out _)).mono ?_); rintro e9 w9 ⟨rfl, dw, rfl⟩)) | (go_at_call 7; first | ((with_reducible refine (grow_call (HW.out _)).mono ?_); rintro e9 w9 ⟨rfl, dw, rfl⟩) | ((with_reducible refine (gro (HW.out _)).mono ?_); rintro e9 w9 ⟨rfl, dw, rfl⟩)))
              go_roundw
              case rel => exact ⟨3, Or.inr (Or.inr rfl), by go_num, by have t := hB.out; (repeat (first | with_reducible exact Below.refl _ _ | with_reducible assumption | (with_reducible refine bel_set ?_ (by first | exact Nat.le_refl _ | (simp; done) | (simp; omega) | omega) _) | with_reducible refine bel_grow ?_ _ | with_reducible refine Below.drew ?_ | with_reducible refine below_drewN ?_ _ | with_reducible refine bel_alloc ?_ _ | with_reducible refine bel_trans ?_ (by assumption))), by have t := g_f.out; (repeat (first | with_reducible assumption | (with_reducible refine Blk.new' ?_; first | with_reducible rfl | (simp; done)) | with_reducible refine Blk.alloc ?_ _ | with_reducible refine Blk.grow ?_ _ | with_reducible refine Blk.drew ?_ | with_reducible refine Blk.drewN ?_ _ | (with_reducible refine Blk.far ?_ (by first | (dsimp only; omega) | (simp; omega)) _) | (with_reducible apply Blk.two) | (with_reducible refine Blk.set' ?_ _ _ ?_) | (with_reducible rfl) | rfl)), by have t := g_d.out; (repeat (first | with_reducible assumption | (with_reducible refine Blk.new' ?_; first | with_reducible rfl | (simp; done)) | with_reducible refine Blk.alloc ?_ _ | with_reducible refine Blk.grow ?_ _ | with_reducible refine Blk.drew ?_ | with_reducible refine Blk.drewN ?_ _ | (with_reducible refine Blk.far ?_ (by first | (dsimp only; omega) | (simp; omega)) _) | (with_reducible apply Blk.two) | (with_reducible refine Blk.set' ?_ _ _ ?_) | (with_reducible rfl) | rfl)), by have t := g_c.out; (repeat (first | with_reducible assumption | (with_reducible refine Blk.new' ?_; first | with_reducible rfl | (simp; done)) | with_reducible refine Blk.alloc ?_ _ | with_reducible refine Blk.grow ?_ _ | with_reducible refine Blk.drew ?_ | with_reducible refine Blk.drewN ?_ _ | (with_reducible refine Blk.far ?_ (by first | (dsimp only; omega) | (simp; omega)) _) | (with_reducible apply Blk.two) | (with_reducible refine Blk.set' ?_ _ _ ?_) | (with_reducible rfl) | rfl))⟩
              case measure => simp [intOf]
            by_cases k2 : TT < v
            · have k1' : decide (v ≤ FF) = false := by simpa using k1
              have k2' : decide (TT < v) = true := by simpa using k2
              go_wp2_with (first | (go_at_call 15; first | ((with_reducible refine (grow_call (HF2.out _)).mono ?_); rintro e9 w9 ⟨rfl, dw, rfl⟩) | ((with_reducible refine (gro (HF2.out _)).mono ?_); rintro e9 w9 ⟨rfl, dw, rfl⟩) | ((with_reducible refine (grow_call (HD2.out _)).mono ?_); rintro e9 w9 ⟨rfl, dw, rfl⟩) | ((with_reducible refine (gro (HD2.out _)).mono ?_); rintro e9 w9 ⟨rfl, dw, rfl⟩) | ((with_reducible refine (grow_call (HC1.out _)).mono ?_); rintro e9 w9 ⟨rfl, dw, rfl⟩) | ((with_reducible refine (gro (HC1.out _)).mono ?_); rintro e9 w9 ⟨rfl, dw, rfl⟩)) | (go_at_call 7; first | ((with_reducible refine (grow_call (HW.out _)).mono ?_); rintro e9 w9 ⟨rfl, dw, rfl⟩) | ((with_reducible refine (gro (HW.out _)).mono ?_); rintro e9 w9 ⟨rfl, dw, rfl⟩)))
              go_roundw
              case rel => exact ⟨3, Or.inr (Or.inr rfl), by go_num, by have t := hB.out; (repeat (first | with_reducible exact Below.refl _ _ | with_reducible assumption | (with_reducible refine bel_set ?_ (by first | exact Nat.le_refl _ | (simp; done) | (simp; omega) | omega) _) | with_reducible refine bel_grow ?_ _ | with_reducible refine Below.drew ?_ | with_reducible refine below_drewN ?_ _ | with_reducible refine bel_alloc ?_ _ | with_reducible refine bel_trans ?_ (by assumption))), by have t := g_f.out; (repeat (first | with_reducible assumption | (with_reducible refine Blk.new' ?_; first | with_reducible rfl | (simp; done)) | with_reducible refine Blk.alloc ?_ _ | with_reducible refine Blk.grow ?_ _ | with_reducible refine Blk.drew ?_ | with_reducible refine Blk.drewN ?_ _ | (with_reducible refine Blk.far ?_ (by first | (dsimp only; omega) | (simp; omega)) _) | (with_reducible apply Blk.two) | (with_reducible refine Blk.set' ?_ _ _ ?_) | (with_reducible rfl) | rfl)), by have t := g_d.out; (repeat (first | with_reducible assumption | (with_reducible refine Blk.new' ?_; first | with_reducible rfl | (simp; done)) | with_reducible refine Blk.alloc ?_ _ | with_reducible refine Blk.grow ?_ _ | with_reducible refine Blk.drew ?_ | with_reducible refine Blk.drewN ?_ _ | (with_reducible refine Blk.far ?_ (by first | (dsimp only; omega) | (simp; omega)) _) | (with_reducible apply Blk.two) | (with_reducible refine Blk.set' ?_ _ _ ?_) | (with_reducible rfl) | rfl)), by have t := g_c.out; (repeat (first | with_reducible assumption | (with_reducible refine Blk.new' ?_; first | with_reducible rfl | (simp; done)) | with_reducible refine Blk.alloc ?_ _ | with_reducible refine Blk.grow ?_ _ | with_reducible refine Blk.drew ?_ | with_reducible refine Blk.drewN ?_ _ | (with_reducible refine Blk.far ?_ (by first | (dsimp only; omega) | (simp; omega)) _) | (with_reducible apply Blk.two) | (with_reducible refine Blk.set' ?_ _ _ ?_) | (with_reducible rfl) | rfl))⟩
              case measure => simp [intOf]
            have k1' : decide (v ≤ FF) = false := by simpa using k1
            have k2' : decide (TT < v) = false := by simpa using k2
            have hl' := Lib.hid (hl.out (by omega))
            have hh' := Lib.hid (hh.out (by omega) (by omega))
            have hw0 : 0 ≤ v - 1 ∧ v - 1 < 18446744073709551616 := by omega
            go_upto_region 13 with (first | (go_at_call 15; first | ((with_reducible refine (grow_call (HF2.out _)).mono ?_); rintro e9 w9 ⟨rfl, dw, rfl⟩) | ((with_reducible refine (gro (HF2.out _)).mono ?_); rintro e9 w9 ⟨rfl, dw, rfl⟩) | ((with_reducible refine (grow_call (HD2.out _)).mono ?_); rintro e9 w9 ⟨rfl, dw, rfl⟩) | ((with_reducible refine (gro (HD2.out _)).mono ?_); rintro e9 w9 ⟨rfl, dw, rfl⟩) | ((with_reducible refine (grow_call (HC1.out _)).mono ?_); rintro e9 w9 ⟨rfl, dw, rfl⟩) | ((with_reducible refine (gro (HC1.out _)).mono ?_); rintro e9 w9 ⟨rfl, dw, rfl⟩)) | (go_at_call 7; first | ((with_reducible refine (grow_call (HW.out _)).mono ?_); rintro e9 w9 ⟨rfl, dw, rfl⟩) | ((with_reducible refine (gro (HW.out _)).mono ?_); rintro e9 w9 ⟨rfl, dw, rfl⟩)))
            go_cut [13, 14] (fun s13 s14 wx => ∃ lo hi, s13 = .pointer (some ⟨lo, 0, none⟩) ∧ s14 = .pointer (some ⟨hi, 0, none⟩) ∧ w.heap.size < lo ∧ w.heap.size < hi ∧ lo ≠ hi ∧ pd ≠ lo ∧ pd ≠ hi ∧ pc ≠ lo ∧ pc ≠ hi ∧ Blk wx lo 27 #[.int .u64 a, .int .u64 b, .int .u64 c, .int .u64 d, .int .u32 e, .int .u32 f] ∧ Blk wx hi 27 #[.int .u64 a, .int .u64 b, .int .u64 c, .int .u64 d, .int .u32 e, .int .u32 f] ∧ Below w.heap.size w wx ∧ Blk wx w.heap.size 27 #[.int .u64 a, .int .u64 b, .int .u64 c, .int .u64 d, .int .u32 e, .int .u32 f] ∧ Blk wx pd 27 #[.int .u64 a, .int .u64 b, .int .u64 c, .int .u64 d, .int .u32 e, .int .u32 1] ∧ Blk wx pc 27 #[.int .u64 a, .int .u64 b, .int .u64 c, .int .u64 d, .int .u32 e, .int .u32 2])
            case first =>
              generalize hG : Grow wr _ = G at *
              have z9 : Below wr.heap.size wr G := hG ▸ grow_below _ _
              clear hG
              have z8 := z9.size
              have hB' := Lib.hid (bel_eld hB.out z9)
              have q_f := g_f.out.kept z9
              have q_d := g_d.out.kept z9
              have q_c := g_c.out.kept z9
              clear hB g_f g_d g_c f0 f1 f2 f3 f4 f5 ff0 ff1 ff2 ff3 ff4 ff5 fl d0 d1 d2 d3 d4 d5 df0 df1 df2 df3 df4 df5 dl c0 c1 c2 c3 c4 c5 cf0 cf1 cf2 cf3 cf4 cf5 cl z9
              have f0 := (q_f).cell 0
              have f1 := (q_f).cell 1
              have f2 := (q_f).cell 2
              have f3 := (q_f).cell 3
              have f4 := (q_f).cell 4
              have f5 := (q_f).cell 5
              have ff0 := (q_f).frozen 0
              have ff1 := (q_f).frozen 1
              have ff2 := (q_f).frozen 2
              have ff3 := (q_f).frozen 3
              have ff4 := (q_f).frozen 4
              have ff5 := (q_f).frozen 5
              have fl := (q_f).lt
              have dl := q_d.lt
              have cl := q_c.lt
              replace q_f := Lib.hid q_f
              replace q_d := Lib.hid q_d
              replace q_c := Lib.hid q_c
              go_region
              all_goals (
                go_wp2_with fail
                go_meet
                have tB := hB'.out
                have tf := q_f.out
                have td := q_d.out
                have tc := q_c.out
                exact ⟨_, _, rfl, rfl, by first | omega | (simp; omega), by first | omega | (simp; omega), by first | omega | (simp; omega) | simp, by first | omega | (simp; omega), by first | omega | (simp; omega), by first | omega | (simp; omega), by first | omega | (simp; omega), by (repeat (first | with_reducible assumption | (with_reducible refine Blk.new' ?_; first | with_reducible rfl | (simp; done)) | with_reducible refine Blk.alloc ?_ _ | with_reducible refine Blk.grow ?_ _ | with_reducible refine Blk.drew ?_ | with_reducible refine Blk.drewN ?_ _ | (with_reducible refine Blk.far ?_ (by first | (dsimp only; omega) | (simp; omega)) _) | (with_reducible apply Blk.two) | (with_reducible refine Blk.set' ?_ _ _ ?_) | (with_reducible rfl) | rfl)), by (repeat (first | with_reducible assumption | (with_reducible refine Blk.new' ?_; first | with_reducible rfl | (simp; done)) | with_reducible refine Blk.alloc ?_ _ | with_reducible refine Blk.grow ?_ _ | with_reducible refine Blk.drew ?_ | with_reducible refine Blk.drewN ?_ _ | (with_reducible refine Blk.far ?_ (by first | (dsimp only; omega) | (simp; omega)) _) | (with_reducible apply Blk.two) | (with_reducible refine Blk.set' ?_ _ _ ?_) | (with_reducible rfl) | rfl)), by (repeat (first | with_reducible exact Below.refl _ _ | with_reducible assumption | (with_reducible refine bel_set ?_ (by first | exact Nat.le_refl _ | (simp; done) | (simp; omega) | omega) _) | with_reducible refine bel_grow ?_ _ | with_reducible refine Below.drew ?_ | with_reducible refine below_drewN ?_ _ | with_reducible refine bel_alloc ?_ _ | with_reducible refine bel_trans ?_ (by assumption))), by (repeat (first | with_reducible assumption | (with_reducible refine Blk.new' ?_; first | with_reducible rfl | (simp; done)) | with_reducible refine Blk.alloc ?_ _ | with_reducible refine Blk.grow ?_ _ | with_reducible refine Blk.drew ?_ | with_reducible refine Blk.drewN ?_ _ | (with_reducible refine Blk.far ?_ (by first | (dsimp only; omega) | (simp; omega)) _) | (with_reducible apply Blk.two) | (with_reducible refine Blk.set' ?_ _ _ ?_) | (with_reducible rfl) | rfl)), by (repeat (first | with_reducible assumption | (with_reducible refine Blk.new' ?_; first | with_reducible rfl | (simp; done)) | with_reducible refine Blk.alloc ?_ _ | with_reducible refine Blk.grow ?_ _ | with_reducible refine Blk.drew ?_ | with_reducible refine Blk.drewN ?_ _ | (with_reducible refine Blk.far ?_ (by first | (dsimp only; omega) | (simp; omega)) _) | (with_reducible apply Blk.two) | (with_reducible refine Blk.set' ?_ _ _ ?_) | (with_reducible rfl) | rfl)), by (repeat (first | with_reducible assumption | (with_reducible refine Blk.new' ?_; first | with_reducible rfl | (simp; done)) | with_reducible refine Blk.alloc ?_ _ | with_reducible refine Blk.grow ?_ _ | with_reducible refine Blk.drew ?_ | with_reducible refine Blk.drewN ?_ _ | (with_reducible refine Blk.far ?_ (by first | (dsimp only; omega) | (simp; omega)) _) | (with_reducible apply Blk.two) | (with_reducible refine Blk.set' ?_ _ _ ?_) | (with_reducible rfl) | rfl))⟩)
            case rest =>
              clear hB g_f g_d g_c f0 f1 f2 f3 f4 f5 ff0 ff1 ff2 ff3 ff4 ff5 fl d0 d1 d2 d3 d4 d5 df0 df1 df2 df3 df4 df5 dl c0 c1 c2 c3 c4 c5 cf0 cf1 cf2 cf3 cf4 cf5 cl
              obtain ⟨lo, hi, rfl, rfl, l1, l2, l3, l4, l5, l6, l7, q_l, q_h, hB, g_f, g_d, g_c⟩ := hcut
              have f0 := (g_f).cell 0
              have f1 := (g_f).cell 1
              have f2 := (g_f).cell 2
              have f3 := (g_f).cell 3
              have f4 := (g_f).cell 4
              have f5 := (g_f).cell 5
              have ff0 := (g_f).frozen 0
              have ff1 := (g_f).frozen 1
              have ff2 := (g_f).frozen 2
              have ff3 := (g_f).frozen 3
              have ff4 := (g_f).frozen 4
              have ff5 := (g_f).frozen 5
              have fl := (g_f).lt
              have lo_0 := (q_l).cell 0
              have lo_1 := (q_l).cell 1
              have lo_2 := (q_l).cell 2
              have lo_3 := (q_l).cell 3
              have lo_4 := (q_l).cell 4
              have lo_5 := (q_l).cell 5
              have lo_f0 := (q_l).frozen 0
              have lo_f1 := (q_l).frozen 1
              have lo_f2 := (q_l).frozen 2
              have lo_f3 := (q_l).frozen 3
              have lo_f4 := (q_l).frozen 4
              have lo_f5 := (q_l).frozen 5
              have lo_l := (q_l).lt
              have hi_0 := (q_h).cell 0
              have hi_1 := (q_h).cell 1
              have hi_2 := (q_h).cell 2
              have hi_3 := (q_h).cell 3
              have hi_4 := (q_h).cell 4
              have hi_5 := (q_h).cell 5
              have hi_f0 := (q_h).frozen 0
              have hi_f1 := (q_h).frozen 1
              have hi_f2 := (q_h).frozen 2
              have hi_f3 := (q_h).frozen 3
              have hi_f4 := (q_h).frozen 4
              have hi_f5 := (q_h).frozen 5
              have hi_l := (q_h).lt
              have dl := g_d.lt
              have cl := g_c.lt
              replace hB := Lib.hid hB
              replace g_f := Lib.hid g_f
              replace g_d := Lib.hid g_d
              replace g_c := Lib.hid g_c
              clear q_l q_h
              by_cases k3 : v - 1 = 0
              · have k3' : (v - 1 == 0) = true := by simpa using k3
                have k3'' := Lib.hid k3
                clear k3
                go_wp2_with fail
                go_roundw
                case rel => exact ⟨3, Or.inr (Or.inr rfl), by go_num, by have t := hB.out; (repeat (first | with_reducible exact Below.refl _ _ | with_reducible assumption | (with_reducible refine bel_set ?_ (by first | exact Nat.le_refl _ | (simp; done) | (simp; omega) | omega) _) | with_reducible refine bel_grow ?_ _ | with_reducible refine Below.drew ?_ | with_reducible refine below_drewN ?_ _ | with_reducible refine bel_alloc ?_ _ | with_reducible refine bel_trans ?_ (by assumption))), by have t := g_f.out; (repeat (first | with_reducible assumption | (with_reducible refine Blk.new' ?_; first | with_reducible rfl | (simp; done)) | with_reducible refine Blk.alloc ?_ _ | with_reducible refine Blk.grow ?_ _ | with_reducible refine Blk.drew ?_ | with_reducible refine Blk.drewN ?_ _ | (with_reducible refine Blk.far ?_ (by first | (dsimp only; omega) | (simp; omega)) _) | (with_reducible apply Blk.two) | (with_reducible refine Blk.set' ?_ _ _ ?_) | (with_reducible rfl) | rfl)), by have t := g_d.out; (repeat (first | with_reducible assumption | (with_reducible refine Blk.new' ?_; first | with_reducible rfl | (simp; done)) | with_reducible refine Blk.alloc ?_ _ | with_reducible refine Blk.grow ?_ _ | with_reducible refine Blk.drew ?_ | with_reducible refine Blk.drewN ?_ _ | (with_reducible refine Blk.far ?_ (by first | (dsimp only; omega) | (simp; omega)) _) | (with_reducible apply Blk.two) | (with_reducible refine Blk.set' ?_ _ _ ?_) | (with_reducible rfl) | rfl)), by have t := g_c.out; (repeat (first | with_reducible assumption | (with_reducible refine Blk.new' ?_; first | with_reducible rfl | (simp; done)) | with_reducible refine Blk.alloc ?_ _ | with_reducible refine Blk.grow ?_ _ | with_reducible refine Blk.drew ?_ | with_reducible refine Blk.drewN ?_ _ | (with_reducible refine Blk.far ?_ (by first | (dsimp only; omega) | (simp; omega)) _) | (with_reducible apply Blk.two) | (with_reducible refine Blk.set' ?_ _ _ ?_) | (with_reducible rfl) | rfl))⟩
                case measure => simp [intOf]
              have k3' : (v - 1 == 0) = false := by simpa using k3
              rcases HP.out (by omega) (by omega) k3 with ⟨e1, e2, e3⟩ | ⟨e1, e2, e3⟩ | ⟨e1, e2, e3⟩
              · cases e3
              · cases e3
              · have HLo := Lib.hid (fun w => takes_is (a := a) (b := b) (c := c) (d := v - 1) (e := e) (f := f) (s := s) (g := 2) (y := false) (Or.inr rfl) hl'.out e1 w)
                have HHi := Lib.hid (fun w => takes_is (a := a) (b := b) (c := v) (d := d) (e := e) (f := f) (s := s) (g := 2) (y := false) (Or.inr rfl) hh'.out e2 w)
                replace k3 := Lib.hid k3
                clear e1 e2 e3 HP hl' hh' HX1 HX2
                go_wp2_with fail
                first | (with_reducible refine rgrow2 (by kernel_rfl) (by kernel_rfl) ?_) | (refine rgrow (by kernel_rfl) (by kernel_rfl) ?_)
                repeat (go_big_quiet_step (((go_at_call 15; first | (with_reducible exact grow_call (HF2.out _)) | (with_reducible exact grow_call (HLo.out _)) | (with_reducible exact grow_call (HHi.out _))))))
                refine wpQuiet_nil ?_
                intro dr
                go_wp2_with fail
                go_roundw
                case rel => exact ⟨3, Or.inr (Or.inr rfl), by go_num, by have t := hB.out; (repeat (first | with_reducible exact Below.refl _ _ | with_reducible assumption | (with_reducible refine bel_set ?_ (by first | exact Nat.le_refl _ | (simp; done) | (simp; omega) | omega) _) | with_reducible refine bel_grow ?_ _ | with_reducible refine Below.drew ?_ | with_reducible refine below_drewN ?_ _ | with_reducible refine bel_alloc ?_ _ | with_reducible refine bel_trans ?_ (by assumption))), by have t := g_f.out; (repeat (first | with_reducible assumption | (with_reducible refine Blk.new' ?_; first | with_reducible rfl | (simp; done)) | with_reducible refine Blk.alloc ?_ _ | with_reducible refine Blk.grow ?_ _ | with_reducible refine Blk.drew ?_ | with_reducible refine Blk.drewN ?_ _ | (with_reducible refine Blk.far ?_ (by first | (dsimp only; omega) | (simp; omega)) _) | (with_reducible apply Blk.two) | (with_reducible refine Blk.set' ?_ _ _ ?_) | (with_reducible rfl) | rfl)), by have t := g_d.out; (repeat (first | with_reducible assumption | (with_reducible refine Blk.new' ?_; first | with_reducible rfl | (simp; done)) | with_reducible refine Blk.alloc ?_ _ | with_reducible refine Blk.grow ?_ _ | with_reducible refine Blk.drew ?_ | with_reducible refine Blk.drewN ?_ _ | (with_reducible refine Blk.far ?_ (by first | (dsimp only; omega) | (simp; omega)) _) | (with_reducible apply Blk.two) | (with_reducible refine Blk.set' ?_ _ _ ?_) | (with_reducible rfl) | rfl)), by have t := g_c.out; (repeat (first | with_reducible assumption | (with_reducible refine Blk.new' ?_; first | with_reducible rfl | (simp; done)) | with_reducible refine Blk.alloc ?_ _ | with_reducible refine Blk.grow ?_ _ | with_reducible refine Blk.drew ?_ | with_reducible refine Blk.drewN ?_ _ | (with_reducible refine Blk.far ?_ (by first | (dsimp only; omega) | (simp; omega)) _) | (with_reducible apply Blk.two) | (with_reducible refine Blk.set' ?_ _ _ ?_) | (with_reducible rfl) | rfl))⟩
                case measure => simp [intOf]
          · skip
            by_cases k1 : v ≤ FF
            · have k1' : decide (v ≤ FF) = true := by simpa using k1
              go_wp2_with (first | (go_at_call 15; first | ((with_reducible refine (grow_call (HF2.out _)).mono ?_); rintro e9 w9 ⟨rfl, dw, rfl⟩) | ((with_reducible refine (gro (HF2.out _)).mono ?_); rintro e9 w9 ⟨rfl, dw, rfl⟩) | ((with_reducible refine (grow_call (HD2.out _)).mono ?_); rintro e9 w9 ⟨rfl, dw, rfl⟩) | ((with_reducible refine (gro (HD2.out _)).mono ?_); rintro e9 w9 ⟨rfl, dw, rfl⟩) | ((with_reducible refine (grow_call (HC1.out _)).mono ?_); rintro e9 w9 ⟨rfl, dw, rfl⟩) | ((with_reducible refine (gro (HC1.out _)).mono ?_); rintro e9 w9 ⟨rfl, dw, rfl⟩)) | (go_at_call 7; first | ((with_reducible refine (grow_call (HW.out _)).mono ?_); rintro e9 w9 ⟨rfl, dw, rfl⟩) | ((with_reducible refine (gro (HW.out _)).mono ?_); rintro e9 w9 ⟨rfl, dw, rfl⟩)))
              go_roundw
              case rel => exact ⟨3, Or.inr (Or.inr rfl), by go_num, by have t := hB.out; (repeat (first | with_reducible exact Below.refl _ _ | with_reducible assumption | (with_reducible refine bel_set ?_ (by first | exact Nat.le_refl _ | (simp; done) | (simp; omega) | omega) _) | with_reducible refine bel_grow ?_ _ | with_reducible refine Below.drew ?_ | with_reducible refine below_drewN ?_ _ | with_reducible refine bel_alloc ?_ _ | with_reducible refine bel_trans ?_ (by assumption))), by have t := g_f.out; (repeat (first | with_reducible assumption | (with_reducible refine Blk.new' ?_; first | with_reducible rfl | (simp; done)) | with_reducible refine Blk.alloc ?_ _ | with_reducible refine Blk.grow ?_ _ | with_reducible refine Blk.drew ?_ | with_reducible refine Blk.drewN ?_ _ | (with_reducible refine Blk.far ?_ (by first | (dsimp only; omega) | (simp; omega)) _) | (with_reducible apply Blk.two) | (with_reducible refine Blk.set' ?_ _ _ ?_) | (with_reducible rfl) | rfl)), by have t := g_d.out; (repeat (first | with_reducible assumption | (with_reducible refine Blk.new' ?_; first | with_reducible rfl | (simp; done)) | with_reducible refine Blk.alloc ?_ _ | with_reducible refine Blk.grow ?_ _ | with_reducible refine Blk.drew ?_ | with_reducible refine Blk.drewN ?_ _ | (with_reducible refine Blk.far ?_ (by first | (dsimp only; omega) | (simp; omega)) _) | (with_reducible apply Blk.two) | (with_reducible refine Blk.set' ?_ _ _ ?_) | (with_reducible rfl) | rfl)), by have t := g_c.out; (repeat (first | with_reducible assumption | (with_reducible refine Blk.new' ?_; first | with_reducible rfl | (simp; done)) | with_reducible refine Blk.alloc ?_ _ | with_reducible refine Blk.grow ?_ _ | with_reducible refine Blk.drew ?_ | with_reducible refine Blk.drewN ?_ _ | (with_reducible refine Blk.far ?_ (by first | (dsimp only; omega) | (simp; omega)) _) | (with_reducible apply Blk.two) | (with_reducible refine Blk.set' ?_ _ _ ?_) | (with_reducible rfl) | rfl))⟩
              case measure => simp [intOf]
            by_cases k2 : TT < v
            · have k1' : decide (v ≤ FF) = false := by simpa using k1
              have k2' : decide (TT < v) = true := by simpa using k2
              go_wp2_with (first | (go_at_call 15; first | ((with_reducible refine (grow_call (HF2.out _)).mono ?_); rintro e9 w9 ⟨rfl, dw, rfl⟩) | ((with_reducible refine (gro (HF2.out _)).mono ?_); rintro e9 w9 ⟨rfl, dw, rfl⟩) | ((with_reducible refine (grow_call (HD2.out _)).mono ?_); rintro e9 w9 ⟨rfl, dw, rfl⟩) | ((with_reducible refine (gro (HD2.out _)).mono ?_); rintro e9 w9 ⟨rfl, dw, rfl⟩) | ((with_reducible refine (grow_call (HC1.out _)).mono ?_); rintro e9 w9 ⟨rfl, dw, rfl⟩) | ((with_reducible refine (gro (HC1.out _)).mono ?_); rintro e9 w9 ⟨rfl, dw, rfl⟩)) | (go_at_call 7; first | ((with_reducible refine (grow_call (HW.out _)).mono ?_); rintro e9 w9 ⟨rfl, dw, rfl⟩) | ((with_reducible refine (gro (HW.out _)).mono ?_); rintro e9 w9 ⟨rfl, dw, rfl⟩)))
              go_roundw
              case rel => exact ⟨3, Or.inr (Or.inr rfl), by go_num, by have t := hB.out; (repeat (first | with_reducible exact Below.refl _ _ | with_reducible assumption | (with_reducible refine bel_set ?_ (by first | exact Nat.le_refl _ | (simp; done) | (simp; omega) | omega) _) | with_reducible refine bel_grow ?_ _ | with_reducible refine Below.drew ?_ | with_reducible refine below_drewN ?_ _ | with_reducible refine bel_alloc ?_ _ | with_reducible refine bel_trans ?_ (by assumption))), by have t := g_f.out; (repeat (first | with_reducible assumption | (with_reducible refine Blk.new' ?_; first | with_reducible rfl | (simp; done)) | with_reducible refine Blk.alloc ?_ _ | with_reducible refine Blk.grow ?_ _ | with_reducible refine Blk.drew ?_ | with_reducible refine Blk.drewN ?_ _ | (with_reducible refine Blk.far ?_ (by first | (dsimp only; omega) | (simp; omega)) _) | (with_reducible apply Blk.two) | (with_reducible refine Blk.set' ?_ _ _ ?_) | (with_reducible rfl) | rfl)), by have t := g_d.out; (repeat (first | with_reducible assumption | (with_reducible refine Blk.new' ?_; first | with_reducible rfl | (simp; done)) | with_reducible refine Blk.alloc ?_ _ | with_reducible refine Blk.grow ?_ _ | with_reducible refine Blk.drew ?_ | with_reducible refine Blk.drewN ?_ _ | (with_reducible refine Blk.far ?_ (by first | (dsimp only; omega) | (simp; omega)) _) | (with_reducible apply Blk.two) | (with_reducible refine Blk.set' ?_ _ _ ?_) | (with_reducible rfl) | rfl)), by have t := g_c.out; (repeat (first | with_reducible assumption | (with_reducible refine Blk.new' ?_; first | with_reducible rfl | (simp; done)) | with_reducible refine Blk.alloc ?_ _ | with_reducible refine Blk.grow ?_ _ | with_reducible refine Blk.drew ?_ | with_reducible refine Blk.drewN ?_ _ | (with_reducible refine Blk.far ?_ (by first | (dsimp only; omega) | (simp; omega)) _) | (with_reducible apply Blk.two) | (with_reducible refine Blk.set' ?_ _ _ ?_) | (with_reducible rfl) | rfl))⟩
              case measure => simp [intOf]
            have k1' : decide (v ≤ FF) = false := by simpa using k1
            have k2' : decide (TT < v) = false := by simpa using k2
            have hl' := Lib.hid (hl.out (by omega))
            have hh' := Lib.hid (hh.out (by omega) (by omega))
            have hw0 : 0 ≤ v - 1 ∧ v - 1 < 18446744073709551616 := by omega
            go_upto_region 13 with (first | (go_at_call 15; first | ((with_reducible refine (grow_call (HF2.out _)).mono ?_); rintro e9 w9 ⟨rfl, dw, rfl⟩) | ((with_reducible refine (gro (HF2.out _)).mono ?_); rintro e9 w9 ⟨rfl, dw, rfl⟩) | ((with_reducible refine (grow_call (HD2.out _)).mono ?_); rintro e9 w9 ⟨rfl, dw, rfl⟩) | ((with_reducible refine (gro (HD2.out _)).mono ?_); rintro e9 w9 ⟨rfl, dw, rfl⟩) | ((with_reducible refine (grow_call (HC1.out _)).mono ?_); rintro e9 w9 ⟨rfl, dw, rfl⟩) | ((with_reducible refine (gro (HC1.out _)).mono ?_); rintro e9 w9 ⟨rfl, dw, rfl⟩)) | (go_at_call 7; first | ((with_reducible refine (grow_call (HW.out _)).mono ?_); rintro e9 w9 ⟨rfl, dw, rfl⟩) | ((with_reducible refine (gro (HW.out _)).mono ?_); rintro e9 w9 ⟨rfl, dw, rfl⟩)))
            go_cut [13, 14] (fun s13 s14 wx => ∃ lo hi, s13 = .pointer (some ⟨lo, 0, none⟩) ∧ s14 = .pointer (some ⟨hi, 0, none⟩) ∧ w.heap.size < lo ∧ w.heap.size < hi ∧ lo ≠ hi ∧ pd ≠ lo ∧ pd ≠ hi ∧ pc ≠ lo ∧ pc ≠ hi ∧ Blk wx lo 27 #[.int .u64 a, .int .u64 b, .int .u64 c, .int .u64 d, .int .u32 e, .int .u32 f] ∧ Blk wx hi 27 #[.int .u64 a, .int .u64 b, .int .u64 c, .int .u64 d, .int .u32 e, .int .u32 f] ∧ Below w.heap.size w wx ∧ Blk wx w.heap.size 27 #[.int .u64 a, .int .u64 b, .int .u64 c, .int .u64 d, .int .u32 e, .int .u32 f] ∧ Blk wx pd 27 #[.int .u64 a, .int .u64 b, .int .u64 c, .int .u64 d, .int .u32 e, .int .u32 1] ∧ Blk wx pc 27 #[.int .u64 a, .int .u64 b, .int .u64 c, .int .u64 d, .int .u32 e, .int .u32 2])
            case first =>
              generalize hG : Grow wr _ = G at *
              have z9 : Below wr.heap.size wr G := hG ▸ grow_below _ _
              clear hG
              have z8 := z9.size
              have hB' := Lib.hid (bel_eld hB.out z9)
              have q_f := g_f.out.kept z9
              have q_d := g_d.out.kept z9
              have q_c := g_c.out.kept z9
              clear hB g_f g_d g_c f0 f1 f2 f3 f4 f5 ff0 ff1 ff2 ff3 ff4 ff5 fl d0 d1 d2 d3 d4 d5 df0 df1 df2 df3 df4 df5 dl c0 c1 c2 c3 c4 c5 cf0 cf1 cf2 cf3 cf4 cf5 cl z9
              have f0 := (q_f).cell 0
              have f1 := (q_f).cell 1
              have f2 := (q_f).cell 2
              have f3 := (q_f).cell 3
              have f4 := (q_f).cell 4
              have f5 := (q_f).cell 5
              have ff0 := (q_f).frozen 0
              have ff1 := (q_f).frozen 1
              have ff2 := (q_f).frozen 2
              have ff3 := (q_f).frozen 3
              have ff4 := (q_f).frozen 4
              have ff5 := (q_f).frozen 5
              have fl := (q_f).lt
              have dl := q_d.lt
              have cl := q_c.lt
              replace q_f := Lib.hid q_f
              replace q_d := Lib.hid q_d
              replace q_c := Lib.hid q_c
              go_region
              all_goals (
                go_wp2_with fail
                go_meet
                have tB := hB'.out
                have tf := q_f.out
                have td := q_d.out
                have tc := q_c.out
                exact ⟨_, _, rfl, rfl, by first | omega | (simp; omega), by first | omega | (simp; omega), by first | omega | (simp; omega) | simp, by first | omega | (simp; omega), by first | omega | (simp; omega), by first | omega | (simp; omega), by first | omega | (simp; omega), by (repeat (first | with_reducible assumption | (with_reducible refine Blk.new' ?_; first | with_reducible rfl | (simp; done)) | with_reducible refine Blk.alloc ?_ _ | with_reducible refine Blk.grow ?_ _ | with_reducible refine Blk.drew ?_ | with_reducible refine Blk.drewN ?_ _ | (with_reducible refine Blk.far ?_ (by first | (dsimp only; omega) | (simp; omega)) _) | (with_reducible apply Blk.two) | (with_reducible refine Blk.set' ?_ _ _ ?_) | (with_reducible rfl) | rfl)), by (repeat (first | with_reducible assumption | (with_reducible refine Blk.new' ?_; first | with_reducible rfl | (simp; done)) | with_reducible refine Blk.alloc ?_ _ | with_reducible refine Blk.grow ?_ _ | with_reducible refine Blk.drew ?_ | with_reducible refine Blk.drewN ?_ _ | (with_reducible refine Blk.far ?_ (by first | (dsimp only; omega) | (simp; omega)) _) | (with_reducible apply Blk.two) | (with_reducible refine Blk.set' ?_ _ _ ?_) | (with_reducible rfl) | rfl)), by (repeat (first | with_reducible exact Below.refl _ _ | with_reducible assumption | (with_reducible refine bel_set ?_ (by first | exact Nat.le_refl _ | (simp; done) | (simp; omega) | omega) _) | with_reducible refine bel_grow ?_ _ | with_reducible refine Below.drew ?_ | with_reducible refine below_drewN ?_ _ | with_reducible refine bel_alloc ?_ _ | with_reducible refine bel_trans ?_ (by assumption))), by (repeat (first | with_reducible assumption | (with_reducible refine Blk.new' ?_; first | with_reducible rfl | (simp; done)) | with_reducible refine Blk.alloc ?_ _ | with_reducible refine Blk.grow ?_ _ | with_reducible refine Blk.drew ?_ | with_reducible refine Blk.drewN ?_ _ | (with_reducible refine Blk.far ?_ (by first | (dsimp only; omega) | (simp; omega)) _) | (with_reducible apply Blk.two) | (with_reducible refine Blk.set' ?_ _ _ ?_) | (with_reducible rfl) | rfl)), by (repeat (first | with_reducible assumption | (with_reducible refine Blk.new' ?_; first | with_reducible rfl | (simp; done)) | with_reducible refine Blk.alloc ?_ _ | with_reducible refine Blk.grow ?_ _ | with_reducible refine Blk.drew ?_ | with_reducible refine Blk.drewN ?_ _ | (with_reducible refine Blk.far ?_ (by first | (dsimp only; omega) | (simp; omega)) _) | (with_reducible apply Blk.two) | (with_reducible refine Blk.set' ?_ _ _ ?_) | (with_reducible rfl) | rfl)), by (repeat (first | with_reducible assumption | (with_reducible refine Blk.new' ?_; first | with_reducible rfl | (simp; done)) | with_reducible refine Blk.alloc ?_ _ | with_reducible refine Blk.grow ?_ _ | with_reducible refine Blk.drew ?_ | with_reducible refine Blk.drewN ?_ _ | (with_reducible refine Blk.far ?_ (by first | (dsimp only; omega) | (simp; omega)) _) | (with_reducible apply Blk.two) | (with_reducible refine Blk.set' ?_ _ _ ?_) | (with_reducible rfl) | rfl))⟩)
            case rest =>
              clear hB g_f g_d g_c f0 f1 f2 f3 f4 f5 ff0 ff1 ff2 ff3 ff4 ff5 fl d0 d1 d2 d3 d4 d5 df0 df1 df2 df3 df4 df5 dl c0 c1 c2 c3 c4 c5 cf0 cf1 cf2 cf3 cf4 cf5 cl
              obtain ⟨lo, hi, rfl, rfl, l1, l2, l3, l4, l5, l6, l7, q_l, q_h, hB, g_f, g_d, g_c⟩ := hcut
              have f0 := (g_f).cell 0
              have f1 := (g_f).cell 1
              have f2 := (g_f).cell 2
              have f3 := (g_f).cell 3
              have f4 := (g_f).cell 4
              have f5 := (g_f).cell 5
              have ff0 := (g_f).frozen 0
              have ff1 := (g_f).frozen 1
              have ff2 := (g_f).frozen 2
              have ff3 := (g_f).frozen 3
              have ff4 := (g_f).frozen 4
              have ff5 := (g_f).frozen 5
              have fl := (g_f).lt
              have lo_0 := (q_l).cell 0
              have lo_1 := (q_l).cell 1
              have lo_2 := (q_l).cell 2
              have lo_3 := (q_l).cell 3
              have lo_4 := (q_l).cell 4
              have lo_5 := (q_l).cell 5
              have lo_f0 := (q_l).frozen 0
              have lo_f1 := (q_l).frozen 1
              have lo_f2 := (q_l).frozen 2
              have lo_f3 := (q_l).frozen 3
              have lo_f4 := (q_l).frozen 4
              have lo_f5 := (q_l).frozen 5
              have lo_l := (q_l).lt
              have hi_0 := (q_h).cell 0
              have hi_1 := (q_h).cell 1
              have hi_2 := (q_h).cell 2
              have hi_3 := (q_h).cell 3
              have hi_4 := (q_h).cell 4
              have hi_5 := (q_h).cell 5
              have hi_f0 := (q_h).frozen 0
              have hi_f1 := (q_h).frozen 1
              have hi_f2 := (q_h).frozen 2
              have hi_f3 := (q_h).frozen 3
              have hi_f4 := (q_h).frozen 4
              have hi_f5 := (q_h).frozen 5
              have hi_l := (q_h).lt
              have dl := g_d.lt
              have cl := g_c.lt
              replace hB := Lib.hid hB
              replace g_f := Lib.hid g_f
              replace g_d := Lib.hid g_d
              replace g_c := Lib.hid g_c
              clear q_l q_h
              by_cases k3 : v - 1 = 0
              · have k3' : (v - 1 == 0) = true := by simpa using k3
                have k3'' := Lib.hid k3
                clear k3
                go_wp2_with fail
                go_roundw
                case rel => exact ⟨3, Or.inr (Or.inr rfl), by go_num, by have t := hB.out; (repeat (first | with_reducible exact Below.refl _ _ | with_reducible assumption | (with_reducible refine bel_set ?_ (by first | exact Nat.le_refl _ | (simp; done) | (simp; omega) | omega) _) | with_reducible refine bel_grow ?_ _ | with_reducible refine Below.drew ?_ | with_reducible refine below_drewN ?_ _ | with_reducible refine bel_alloc ?_ _ | with_reducible refine bel_trans ?_ (by assumption))), by have t := g_f.out; (repeat (first | with_reducible assumption | (with_reducible refine Blk.new' ?_; first | with_reducible rfl | (simp; done)) | with_reducible refine Blk.alloc ?_ _ | with_reducible refine Blk.grow ?_ _ | with_reducible refine Blk.drew ?_ | with_reducible refine Blk.drewN ?_ _ | (with_reducible refine Blk.far ?_ (by first | (dsimp only; omega) | (simp; omega)) _) | (with_reducible apply Blk.two) | (with_reducible refine Blk.set' ?_ _ _ ?_) | (with_reducible rfl) | rfl)), by have t := g_d.out; (repeat (first | with_reducible assumption | (with_reducible refine Blk.new' ?_; first | with_reducible rfl | (simp; done)) | with_reducible refine Blk.alloc ?_ _ | with_reducible refine Blk.grow ?_ _ | with_reducible refine Blk.drew ?_ | with_reducible refine Blk.drewN ?_ _ | (with_reducible refine Blk.far ?_ (by first | (dsimp only; omega) | (simp; omega)) _) | (with_reducible apply Blk.two) | (with_reducible refine Blk.set' ?_ _ _ ?_) | (with_reducible rfl) | rfl)), by have t := g_c.out; (repeat (first | with_reducible assumption | (with_reducible refine Blk.new' ?_; first | with_reducible rfl | (simp; done)) | with_reducible refine Blk.alloc ?_ _ | with_reducible refine Blk.grow ?_ _ | with_reducible refine Blk.drew ?_ | with_reducible refine Blk.drewN ?_ _ | (with_reducible refine Blk.far ?_ (by first | (dsimp only; omega) | (simp; omega)) _) | (with_reducible apply Blk.two) | (with_reducible refine Blk.set' ?_ _ _ ?_) | (with_reducible rfl) | rfl))⟩
                case measure => simp [intOf]
              have k3' : (v - 1 == 0) = false := by simpa using k3
              rcases HP.out (by omega) (by omega) k3 with ⟨e1, e2, e3⟩ | ⟨e1, e2, e3⟩ | ⟨e1, e2, e3⟩
              · have HLo := Lib.hid (fun w => takes_is (a := a) (b := b) (c := c) (d := v - 1) (e := e) (f := f) (s := s) (g := 2) (y := true) (Or.inr rfl) hl'.out e1 w)
                have HHi := Lib.hid (fun w => takes_is (a := a) (b := b) (c := v) (d := d) (e := e) (f := f) (s := s) (g := 2) (y := false) (Or.inr rfl) hh'.out e2 w)
                replace k3 := Lib.hid k3
                clear e1 e2 e3 HP hl' hh' HX1 HX2
                go_wp2_with fail
                first | (with_reducible refine rgrow2 (by kernel_rfl) (by kernel_rfl) ?_) | (refine rgrow (by kernel_rfl) (by kernel_rfl) ?_)
                repeat (go_big_quiet_step (((go_at_call 15; first | (with_reducible exact grow_call (HF2.out _)) | (with_reducible exact grow_call (HLo.out _)) | (with_reducible exact grow_call (HHi.out _))))))
                refine wpQuiet_nil ?_
                intro dr
                go_wp2_with fail
                go_roundw
                case rel => exact ⟨3, Or.inr (Or.inr rfl), by go_num, by have t := hB.out; (repeat (first | with_reducible exact Below.refl _ _ | with_reducible assumption | (with_reducible refine bel_set ?_ (by first | exact Nat.le_refl _ | (simp; done) | (simp; omega) | omega) _) | with_reducible refine bel_grow ?_ _ | with_reducible refine Below.drew ?_ | with_reducible refine below_drewN ?_ _ | with_reducible refine bel_alloc ?_ _ | with_reducible refine bel_trans ?_ (by assumption))), by have t := g_f.out; (repeat (first | with_reducible assumption | (with_reducible refine Blk.new' ?_; first | with_reducible rfl | (simp; done)) | with_reducible refine Blk.alloc ?_ _ | with_reducible refine Blk.grow ?_ _ | with_reducible refine Blk.drew ?_ | with_reducible refine Blk.drewN ?_ _ | (with_reducible refine Blk.far ?_ (by first | (dsimp only; omega) | (simp; omega)) _) | (with_reducible apply Blk.two) | (with_reducible refine Blk.set' ?_ _ _ ?_) | (with_reducible rfl) | rfl)), by have t := g_d.out; (repeat (first | with_reducible assumption | (with_reducible refine Blk.new' ?_; first | with_reducible rfl | (simp; done)) | with_reducible refine Blk.alloc ?_ _ | with_reducible refine Blk.grow ?_ _ | with_reducible refine Blk.drew ?_ | with_reducible refine Blk.drewN ?_ _ | (with_reducible refine Blk.far ?_ (by first | (dsimp only; omega) | (simp; omega)) _) | (with_reducible apply Blk.two) | (with_reducible refine Blk.set' ?_ _ _ ?_) | (with_reducible rfl) | rfl)), by have t := g_c.out; (repeat (first | with_reducible assumption | (with_reducible refine Blk.new' ?_; first | with_reducible rfl | (simp; done)) | with_reducible refine Blk.alloc ?_ _ | with_reducible refine Blk.grow ?_ _ | with_reducible refine Blk.drew ?_ | with_reducible refine Blk.drewN ?_ _ | (with_reducible refine Blk.far ?_ (by first | (dsimp only; omega) | (simp; omega)) _) | (with_reducible apply Blk.two) | (with_reducible refine Blk.set' ?_ _ _ ?_) | (with_reducible rfl) | rfl))⟩
                case measure => simp [intOf]
              · have HLo := Lib.hid (fun w => takes_is (a := a) (b := b) (c := c) (d := v - 1) (e := e) (f := f) (s := s) (g := 2) (y := false) (Or.inr rfl) hl'.out e1 w)
                have HHi := Lib.hid (fun w => takes_is (a := a) (b := b) (c := v) (d := d) (e := e) (f := f) (s := s) (g := 2) (y := true) (Or.inr rfl) hh'.out e2 w)
                replace k3 := Lib.hid k3
                clear e1 e2 e3 HP hl' hh' HX1 HX2
                go_wp2_with fail
                first | (with_reducible refine rgrow2 (by kernel_rfl) (by kernel_rfl) ?_) | (refine rgrow (by kernel_rfl) (by kernel_rfl) ?_)
                repeat (go_big_quiet_step (((go_at_call 15; first | (with_reducible exact grow_call (HF2.out _)) | (with_reducible exact grow_call (HLo.out _)) | (with_reducible exact grow_call (HHi.out _))))))
                refine wpQuiet_nil ?_
                intro dr
                go_wp2_with fail
                go_roundw
                case rel => exact ⟨3, Or.inr (Or.inr rfl), by go_num, by have t := hB.out; (repeat (first | with_reducible exact Below.refl _ _ | with_reducible assumption | (with_reducible refine bel_set ?_ (by first | exact Nat.le_refl _ | (simp; done) | (simp; omega) | omega) _) | with_reducible refine bel_grow ?_ _ | with_reducible refine Below.drew ?_ | with_reducible refine below_drewN ?_ _ | with_reducible refine bel_alloc ?_ _ | with_reducible refine bel_trans ?_ (by assumption))), by have t := g_f.out; (repeat (first | with_reducible assumption | (with_reducible refine Blk.new' ?_; first | with_reducible rfl | (simp; done)) | with_reducible refine Blk.alloc ?_ _ | with_reducible refine Blk.grow ?_ _ | with_reducible refine Blk.drew ?_ | with_reducible refine Blk.drewN ?_ _ | (with_reducible refine Blk.far ?_ (by first | (dsimp only; omega) | (simp; omega)) _) | (with_reducible apply Blk.two) | (with_reducible refine Blk.set' ?_ _ _ ?_) | (with_reducible rfl) | rfl)), by have t := g_d.out; (repeat (first | with_reducible assumption | (with_reducible refine Blk.new' ?_; first | with_reducible rfl | (simp; done)) | with_reducible refine Blk.alloc ?_ _ | with_reducible refine Blk.grow ?_ _ | with_reducible refine Blk.drew ?_ | with_reducible refine Blk.drewN ?_ _ | (with_reducible refine Blk.far ?_ (by first | (dsimp only; omega) | (simp; omega)) _) | (with_reducible apply Blk.two) | (with_reducible refine Blk.set' ?_ _ _ ?_) | (with_reducible rfl) | rfl)), by have t := g_c.out; (repeat (first | with_reducible assumption | (with_reducible refine Blk.new' ?_; first | with_reducible rfl | (simp; done)) | with_reducible refine Blk.alloc ?_ _ | with_reducible refine Blk.grow ?_ _ | with_reducible refine Blk.drew ?_ | with_reducible refine Blk.drewN ?_ _ | (with_reducible refine Blk.far ?_ (by first | (dsimp only; omega) | (simp; omega)) _) | (with_reducible apply Blk.two) | (with_reducible refine Blk.set' ?_ _ _ ?_) | (with_reducible rfl) | rfl))⟩
                case measure => simp [intOf]
              · cases e3
      · go_wp2_with fail
        refine (RX.out _).mono ?_
        rintro e9 w9 ⟨rfl, hb9⟩
        go_wp2_with fail
        go_ret
        exact ⟨rfl, bel_eld hB.out hb9⟩
theorem filterParts_any (a b c d e f s v : Int) (hc : 0 ≤ c ∧ c < 18446744073709551616) (hd : 0 ≤ d ∧ d < 18446744073709551616) (hv : 0 ≤ v ∧ v < 18446744073709551616) (w : World) : Calls Try.prog 5 #[.agg #[.int .u64 a, .int .u64 b, .int .u64 c, .int .u64 d, .int .u32 e, .int .u32 f], .int .u64 s, .int .u64 v] w fun r w' => r = .returned (.bool true) ∧ Below w.heap.size w w' := by
  cases h : rightB a b c d e f
  · exact filterParts_no a b c d e f s v h w
  · exact filterParts_yes a b c d e f s v hc hd hv h w
end Go.Proofs.Ytmoflbpglkeikaa
