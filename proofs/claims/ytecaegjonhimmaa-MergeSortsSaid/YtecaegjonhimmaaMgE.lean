/-
  container/heap's down, walked.
-/
import Derived.Test.YtecaegjonhimmaaMgD
namespace Go.Proofs.Ytecaegjonhimmaa
set_option linter.unusedVariables false
set_option linter.unusedSimpArgs false
open Go.RowKit Go.Shelf

theorem HeIs.less {w : World} {B g cap n : Nat} {dn : Bool} {H : Hs} {q : Nat → Nat} (h : HeIs w B g cap n dn H q) {i j : Nat} (hi : i < n) (hj : j < n) : Calls Try.prog 44 #[.agg #[.slice (some ⟨g, 0, none⟩) n cap, .bool dn], .int .i64 i, .int .i64 j] w fun r w' => r = .returned (.bool (lessB dn H (q i) (q j))) ∧ Below w.heap.size w w' := by
  obtain ⟨F, hr⟩ := h.row
  exact less_any g cap n dn H q F i j hi hj w hr
theorem HeIs.swap {w : World} {B g cap n : Nat} {dn : Bool} {H : Hs} {q : Nat → Nat} (h : HeIs w B g cap n dn H q) {i j : Nat} (hi : i < n) (hj : j < n) : Calls Try.prog 45 #[.agg #[.slice (some ⟨g, 0, none⟩) n cap, .bool dn], .int .i64 i, .int .i64 j] w fun r w' => r = .returned (.tuple #[]) ∧ HeIs w' B g cap n dn H (swp q i j) ∧ Tch (fun k => k = g) w w' := by
  obtain ⟨F, hr⟩ := h.row
  refine (swap_any g cap n dn H q F i j hi hj w hr).mono ?_
  rintro r w' ⟨e, hF, ht⟩
  exact ⟨e, ⟨h.cells.tch ht h.ne, hF, h.ne⟩, ht⟩
set_option maxHeartbeats 8000000 in
theorem down_any (B g cap n : Nat) (dn : Bool) (H : Hs) (pl : Nat → Nat) (i0 m : Nat) (hm : m ≤ n) (hn : n ≤ 1000000) (hi : i0 ≤ m) (w : World) (h : HeIs w B g cap n dn H pl) (hd : DownInv dn H m pl i0) :
    Calls Try.prog 25 #[.iface 62 (.pointer (some ⟨B, 0, none⟩)), .int .i64 i0, .int .i64 m] w fun r w' => (∃ b, r = .returned (.bool b)) ∧ (∃ pl', HeIs w' B g cap n dn H pl' ∧ Ord dn H m pl' ∧ SameS m pl pl' ∧ ∀ k, m ≤ k → pl' k = pl k) ∧ Tch (fun k => k = g) w w' := by
  replace h := Lib.hid h
  replace hd := Lib.hid hd
  have eL := enter_less
  have eS := enter_swap
  go_enter Try.func25, Try.ntmps25
  go_wp2_with fail
  go_loopw [7] (fun vi wr => ∃ (i : Nat) (q : Nat → Nat), i ≤ m ∧ vi = .int .i64 i ∧ Hid (HeIs wr B g cap n dn H q) ∧ Hid (DownInv dn H m q i) ∧ Hid (SameS m pl q) ∧ Hid (∀ k, m ≤ k → q k = pl k) ∧ Hid (Tch (fun k => k = g) w wr)) (fun vi _ => m - (intOf vi).toNat)
  case atStart => exact ⟨i0, pl, hi, rfl, h.out, hd.out, SameS.refl _ _, fun _ _ => rfl, Tch.refl _ _⟩
  case round =>
    clear h hd
    obtain ⟨i, q, him, rfl, hh, hd, hs, hk, ht⟩ := hrel
    have kw1 : IntKind.i64.wrap (2 * (i : Int)) = 2 * (i : Int) := by rw [IntKind.wrap_i64]; omega
    have kw2 : IntKind.i64.wrap (2 * (i : Int) + 1) = 2 * (i : Int) + 1 := by rw [IntKind.wrap_i64]; omega
    have kw3 : IntKind.i64.wrap (2 * (i : Int) + 1 + 1) = 2 * (i : Int) + 1 + 1 := by rw [IntKind.wrap_i64]; omega
    have k0 : decide (2 * (i : Int) + 1 < 0) = false := decide_eq_false (by omega)
    by_cases h1 : m ≤ 2 * i + 1
    · have k1 : decide ((m : Int) ≤ 2 * (i : Int) + 1) = true := decide_eq_true (by omega)
      go_wp2_with fail
      go_ret
      exact ⟨⟨_, rfl⟩, ⟨q, hh.out, down_end hd.out (fun c c1 c2 c3 => by rw [par_iff c1] at c3; omega), hs.out, hk.out⟩, ht.out⟩
    · have k1 : decide ((m : Int) ≤ 2 * (i : Int) + 1) = false := decide_eq_false (by omega)
      have hjn : 2 * i + 1 < n := by omega
      by_cases h2 : 2 * i + 2 < m
      · have k2 : decide (2 * (i : Int) + 1 + 1 < (m : Int)) = true := decide_eq_true (by omega)
        have mL := less_m _ _ _ hh.out.cells
        have cL := hh.out.less (i := 2 * i + 2) (j := 2 * i + 1) (by omega) (by omega)
        rw [show ((2 * i + 2 : Nat) : Int) = 2 * (i : Int) + 1 + 1 by omega, show ((2 * i + 1 : Nat) : Int) = 2 * (i : Int) + 1 by omega] at cL
        cases hb : lessB dn H (q (2 * i + 2)) (q (2 * i + 1)) with
        | true =>
          rw [hb] at cL
          go_wp2_with fail
          refine cL.mono ?_
          rintro e2 w2 ⟨rfl, hb2⟩
          have hh2 := Lib.hid (hh.out.kept hb2)
          have ht2 := Lib.hid (ht.out.bel hb2)
          clear hb2 mL
          have hmin : ∀ c, 0 < c → c < m → par c = i → lessB dn H (q c) (q (2 * i + 2)) = false := fun c c1 c2 c3 => by
            rw [par_iff c1] at c3
            rcases c3 with rfl | rfl
            · exact less_asym hb
            · cases hr : lessB dn H (q (2 * i + 2)) (q (2 * i + 2)) with
              | false => rfl
              | true => rw [less_asym hr] at hr; cases hr
          have mL2 := less_m _ _ _ hh2.out.cells
          have cL2 := hh2.out.less (i := 2 * i + 2) (j := i) (by omega) (by omega)
          rw [show ((2 * i + 2 : Nat) : Int) = 2 * (i : Int) + 1 + 1 by omega] at cL2
          cases hb2 : lessB dn H (q (2 * i + 2)) (q i) with
          | false =>
            rw [hb2] at cL2
            go_wp2_with fail
            refine cL2.mono ?_
            rintro e3 w3 ⟨rfl, hb3⟩
            go_wp2_with fail
            go_ret
            exact ⟨⟨_, rfl⟩, ⟨q, hh2.out.kept hb3, down_end hd.out (fun c c1 c2 c3 => less_ntrans (hmin c c1 c2 c3) hb2), hs.out, hk.out⟩, ht2.out.bel hb3⟩
          | true =>
            rw [hb2] at cL2
            go_wp2_with fail
            refine cL2.mono ?_
            rintro e3 w3 ⟨rfl, hb3⟩
            have hh3 := Lib.hid (hh2.out.kept hb3)
            have ht3 := Lib.hid (ht2.out.bel hb3)
            have mS := swap_m _ _ _ hh3.out.cells
            have cS := hh3.out.swap (i := i) (j := 2 * i + 2) (by omega) (by omega)
            rw [show ((2 * i + 2 : Nat) : Int) = 2 * (i : Int) + 1 + 1 by omega] at cS
            clear hb3
            go_wp2_with fail
            refine cS.mono ?_
            rintro e4 w4 ⟨rfl, hh4, ht4⟩
            go_wp2_with fail
            go_roundw
            case rel => exact ⟨2 * i + 2, swp q i (2 * i + 2), by omega, by first | rfl | (congr 1; omega) | go_num, Lib.hid hh4, Lib.hid (down_step hd.out (by omega) (by omega) (by rw [par_iff (by omega)]; omega) hb2 hmin), Lib.hid (hs.out.trans (same_swp (by omega) (by omega))), Lib.hid (fun k hk' => (swp_o (by omega) (by omega)).trans (hk.out k hk')), Lib.hid (ht3.out.trans ht4)⟩
            case measure => simp [intOf]; omega
        | false =>
          rw [hb] at cL
          go_wp2_with fail
          refine cL.mono ?_
          rintro e2 w2 ⟨rfl, hb2⟩
          have hh2 := Lib.hid (hh.out.kept hb2)
          have ht2 := Lib.hid (ht.out.bel hb2)
          clear hb2 mL
          have hmin : ∀ c, 0 < c → c < m → par c = i → lessB dn H (q c) (q (2 * i + 1)) = false := fun c c1 c2 c3 => by
            rw [par_iff c1] at c3
            rcases c3 with rfl | rfl
            · cases hr : lessB dn H (q (2 * i + 1)) (q (2 * i + 1)) with
              | false => rfl
              | true => rw [less_asym hr] at hr; cases hr
            · exact hb
          have mL2 := less_m _ _ _ hh2.out.cells
          have cL2 := hh2.out.less (i := 2 * i + 1) (j := i) (by omega) (by omega)
          rw [show ((2 * i + 1 : Nat) : Int) = 2 * (i : Int) + 1 by omega] at cL2
          cases hb2 : lessB dn H (q (2 * i + 1)) (q i) with
          | false =>
            rw [hb2] at cL2
            go_wp2_with fail
            refine cL2.mono ?_
            rintro e3 w3 ⟨rfl, hb3⟩
            go_wp2_with fail
            go_ret
            exact ⟨⟨_, rfl⟩, ⟨q, hh2.out.kept hb3, down_end hd.out (fun c c1 c2 c3 => less_ntrans (hmin c c1 c2 c3) hb2), hs.out, hk.out⟩, ht2.out.bel hb3⟩
          | true =>
            rw [hb2] at cL2
            go_wp2_with fail
            refine cL2.mono ?_
            rintro e3 w3 ⟨rfl, hb3⟩
            have hh3 := Lib.hid (hh2.out.kept hb3)
            have ht3 := Lib.hid (ht2.out.bel hb3)
            have mS := swap_m _ _ _ hh3.out.cells
            have cS := hh3.out.swap (i := i) (j := 2 * i + 1) (by omega) (by omega)
            rw [show ((2 * i + 1 : Nat) : Int) = 2 * (i : Int) + 1 by omega] at cS
            clear hb3
            go_wp2_with fail
            refine cS.mono ?_
            rintro e4 w4 ⟨rfl, hh4, ht4⟩
            go_wp2_with fail
            go_roundw
            case rel => exact ⟨2 * i + 1, swp q i (2 * i + 1), by omega, by first | rfl | (congr 1; omega) | go_num, Lib.hid hh4, Lib.hid (down_step hd.out (by omega) (by omega) (by rw [par_iff (by omega)]; omega) hb2 hmin), Lib.hid (hs.out.trans (same_swp (by omega) (by omega))), Lib.hid (fun k hk' => (swp_o (by omega) (by omega)).trans (hk.out k hk')), Lib.hid (ht3.out.trans ht4)⟩
            case measure => simp [intOf]; omega
      · have k2 : decide (2 * (i : Int) + 1 + 1 < (m : Int)) = false := decide_eq_false (by omega)
        have hh2 := hh
        have ht2 := ht
        have hmin : ∀ c, 0 < c → c < m → par c = i → lessB dn H (q c) (q (2 * i + 1)) = false := fun c c1 c2 c3 => by
          rw [par_iff c1] at c3
          obtain rfl : c = 2 * i + 1 := by omega
          cases hr : lessB dn H (q (2 * i + 1)) (q (2 * i + 1)) with
          | false => rfl
          | true => rw [less_asym hr] at hr; cases hr
        have mL2 := less_m _ _ _ hh2.out.cells
        have cL2 := hh2.out.less (i := 2 * i + 1) (j := i) (by omega) (by omega)
        rw [show ((2 * i + 1 : Nat) : Int) = 2 * (i : Int) + 1 by omega] at cL2
        cases hb2 : lessB dn H (q (2 * i + 1)) (q i) with
        | false =>
          rw [hb2] at cL2
          go_wp2_with fail
          refine cL2.mono ?_
          rintro e3 w3 ⟨rfl, hb3⟩
          go_wp2_with fail
          go_ret
          exact ⟨⟨_, rfl⟩, ⟨q, hh2.out.kept hb3, down_end hd.out (fun c c1 c2 c3 => less_ntrans (hmin c c1 c2 c3) hb2), hs.out, hk.out⟩, ht2.out.bel hb3⟩
        | true =>
          rw [hb2] at cL2
          go_wp2_with fail
          refine cL2.mono ?_
          rintro e3 w3 ⟨rfl, hb3⟩
          have hh3 := Lib.hid (hh2.out.kept hb3)
          have ht3 := Lib.hid (ht2.out.bel hb3)
          have mS := swap_m _ _ _ hh3.out.cells
          have cS := hh3.out.swap (i := i) (j := 2 * i + 1) (by omega) (by omega)
          rw [show ((2 * i + 1 : Nat) : Int) = 2 * (i : Int) + 1 by omega] at cS
          clear hb3
          go_wp2_with fail
          refine cS.mono ?_
          rintro e4 w4 ⟨rfl, hh4, ht4⟩
          go_wp2_with fail
          go_roundw
          case rel => exact ⟨2 * i + 1, swp q i (2 * i + 1), by omega, by first | rfl | (congr 1; omega) | go_num, Lib.hid hh4, Lib.hid (down_step hd.out (by omega) (by omega) (by rw [par_iff (by omega)]; omega) hb2 hmin), Lib.hid (hs.out.trans (same_swp (by omega) (by omega))), Lib.hid (fun k hk' => (swp_o (by omega) (by omega)).trans (hk.out k hk')), Lib.hid (ht3.out.trans ht4)⟩
          case measure => simp [intOf]; omega
end Go.Proofs.Ytecaegjonhimmaa
