/-
  The document's Text of a number, walked.
-/
import Derived.Test.YtmlaehjjeadbeaaDoorDi
import Derived.Test.YtmlaehjjeadbeaaDoorDd
namespace Go.Proofs.YtmlaehjjeadbeaaDoor
set_option linter.unusedVariables false
set_option linter.unusedSimpArgs false
open Go.RowKit

theorem dz_zero {L : Nat} (h : DZ 0 L) : L = 0 := by
  obtain ⟨h1, h2⟩ := h
  rcases h2 with h2 | h2
  · exact h2
  · have := Nat.pow_pos (n := L - 1) (show 0 < 10 by omega); omega
theorem dz_dl {N L : Nat} (h : DZ N L) (hN : N ≠ 0) : DL N L := by
  obtain ⟨h1, h2⟩ := h
  have hL : L ≠ 0 := by rintro rfl; simp at h1; omega
  exact ⟨by omega, h1, Or.inr (h2.resolve_left hL)⟩
theorem dz_39 {N L : Nat} (h : DZ N L) (hN : N < 340282366920938463463374607431768211456) : L ≤ 39 := by
  obtain ⟨h1, h2⟩ := h
  rcases Nat.lt_or_ge 39 L with h | h
  · rcases h2 with h2 | h2
    · omega
    · have : (10 : Nat) ^ 39 ≤ 10 ^ (L - 1) := Nat.pow_le_pow_right (by omega) (by omega)
      omega
  · exact h
/-- N's first bits -/
def tpb (N e : Nat) : Nat := N / 2 ^ e
theorem tpb_step (N e : Nat) : 2 * tpb N (e + 1) + tpb N e % 2 = tpb N e := by
  unfold tpb
  rw [Nat.pow_succ, ← Nat.div_div_eq_div_mul]
  omega
theorem tpb_le (N e : Nat) : tpb N e ≤ N := Nat.div_le_self _ _
theorem tpb_128 {N : Nat} (h : N < 340282366920938463463374607431768211456) : tpb N 128 = 0 := Nat.div_eq_of_lt h
theorem tpb_0 (N : Nat) : tpb N 0 = N := by unfold tpb; simp
/-- the bit of a byte -/
theorem byte_bit (N k m : Nat) (hk : k < 16) (hm : m < 8) : dg (N : Int) k / ((2 ^ (7 - m) : Nat) : Int) % 2 = ((tpb N (128 - 8 * k - (m + 1)) % 2 : Nat) : Int) := by
  have e0 : dg (N : Int) k = ((N / 256 ^ (15 - k) % 256 : Nat) : Int) := by
    unfold dg pw
    simp
  have e1 : (256 : Nat) = 2 ^ (7 - m) * 2 ^ (m + 1) := by rw [← Nat.pow_add, show 7 - m + (m + 1) = 8 by omega]
  have e2 : 128 - 8 * k - (m + 1) = 8 * (15 - k) + (7 - m) := by omega
  rw [e0]
  unfold tpb
  rw [e2, Nat.pow_add, show (2 : Nat) ^ (8 * (15 - k)) = 256 ^ (15 - k) by rw [Nat.pow_mul], ← Nat.div_div_eq_div_mul]
  generalize N / 256 ^ (15 - k) = M
  rw [← Int.natCast_ediv, show (2 : Int) = ((2 : Nat) : Int) from rfl, ← Int.natCast_emod]
  congr 1
  rw [e1, Nat.mod_mul_right_div_self, Nat.pow_succ, Nat.mul_comm, Nat.mod_mul_right_mod]
set_option maxHeartbeats 8000000 in
theorem rtext_any (N : Nat) (hN : N < 340282366920938463463374607431768211456) (w : World) : Calls Tryd.prog 10 #[.agg #[.int .u64 ((N : Int) / 18446744073709551616), .int .u64 ((N : Int) % 18446744073709551616)]] w fun r w' =>
      r = .returned (.string (strF (dtx N (ndg N)) (ndg N))) ∧ Below w.heap.size w w' := by
  have HD := Lib.hid (fun w => digitsV_any ((N : Int) / 18446744073709551616) ((N : Int) % 18446744073709551616) (wd_nat hN).1 (wd_nat hN).2 w)
  simp only [toV] at HD
  have hb0 := Lib.hid (bel_alloc (bel_alloc (Below.refl w.heap.size w) (.cells #[.int .u64 ((N : Int) / 18446744073709551616), .int .u64 ((N : Int) % 18446744073709551616)] 24)) (.cells #[] 3))
  generalize (N : Int) / 18446744073709551616 = vh at *
  generalize (N : Int) % 18446744073709551616 = vl at *
  go_enter Tryd.func10, Tryd.ntmps10
  go_wp2_with fail
  refine (HD.out _).mono ?_
  rintro r w1 ⟨g, rfl, hg, hrow, hb1⟩
  have hb2 := Lib.hid (bel_eld hb0.out hb1)
  replace hrow := Lib.hid hrow
  clear hb1
  go_wp2_with fail
  go_loopw [3, 5] (fun u i wr => ∃ (k L : Nat) (A : Option Addr) (c : Nat), k ≤ 16 ∧ i = .int .i64 k ∧ u = .slice A L c ∧ Hid (SlIs wr A L (iV (rdd (tpb N (128 - 8 * k))))) ∧ Hid (DZ (tpb N (128 - 8 * k)) L) ∧ Hid (Below w.heap.size w wr) ∧ Hid (wr.rowIs g 3 16 (iV (dg N)))) (fun _ i _ => 16 - (intOf i).toNat)
  case atStart =>
    refine ⟨0, 0, _, _, by omega, rfl, rfl, SlIs.nil, ?_, hb2, hrow⟩
    exact Lib.hid (by rw [tpb_128 hN]; exact ⟨by simp, Or.inl rfl⟩)
  case round =>
    clear hrow hb2
    obtain ⟨k, L, A, c, hk, rfl, rfl, hs, hz, hb, hrow⟩ := hrel
    by_cases hlt : k < 16
    · have c0 := hrow.out.cell hlt
      have gl := hrow.out.lt
      have d1 : decide ((k : Int) < 16) = true := decide_eq_true (by omega)
      rw [show iV (dg (N : Int)) k = .int .i64 (dg (N : Int) k) from rfl] at c0
      go_wp2_with fail
      go_loopw [3, 7] (fun u x wr2 => ∃ (m L : Nat) (A : Option Addr) (c : Nat), m ≤ 8 ∧ x = .int .i64 ((2 ^ (8 - m) / 2 : Nat) : Int) ∧ u = .slice A L c ∧ Hid (SlIs wr2 A L (iV (rdd (tpb N (128 - 8 * k - m))))) ∧ Hid (DZ (tpb N (128 - 8 * k - m)) L) ∧ Hid (Below w.heap.size w wr2) ∧ Hid (wr2.rowIs g 3 16 (iV (dg N)))) (fun _ x _ => (intOf x).toNat)
      case atStart => exact ⟨0, L, A, c, by omega, rfl, rfl, hs, hz, hb, hrow⟩
      case round =>
        clear hs hz hb hrow c0 gl
        obtain ⟨m, L, A, c, hm, rfl, rfl, hs, hz, hb, hrow⟩ := hrel
        by_cases hm8 : m < 8
        · have ex : 2 ^ (8 - m) / 2 = 2 ^ (7 - m) := by rw [show 8 - m = 7 - m + 1 by omega, Nat.pow_succ]; omega
          have ex2 : 2 ^ (7 - m) / 2 = 2 ^ (8 - (m + 1)) / 2 := by rw [show 8 - (m + 1) = 7 - m by omega]
          have bb := byte_bit N k m hlt hm8
          have ts := tpb_step N (128 - 8 * k - (m + 1))
          rw [show 128 - 8 * k - (m + 1) + 1 = 128 - 8 * k - m by omega] at ts
          have px : 0 < 2 ^ (7 - m) := Nat.pow_pos (by omega)
          have px2 : 2 ^ (7 - m) ≤ 2 ^ 7 := Nat.pow_le_pow_right (by omega) (by omega)
          have hdg : 0 ≤ dg (N : Int) k ∧ dg (N : Int) k < 256 := by unfold dg; omega
          rw [ex]
          rw [ex] at *
          generalize 2 ^ (7 - m) = x at *
          generalize dg (N : Int) k = y at *
          have hM : tpb N (128 - 8 * k - m) < 340282366920938463463374607431768211456 := Nat.lt_of_le_of_lt (tpb_le N _) hN
          have HT := Lib.hid (fun w hs => twice_any (tpb N (128 - 8 * k - m)) (tpb N (128 - 8 * k - (m + 1)) % 2) L hM (by omega) hz.out (by have := dz_39 hz.out hM; omega) A c w hs)
          rw [ts] at HT
          replace ts := Lib.hid ts
          generalize tpb N (128 - 8 * k - (m + 1)) % 2 = bit at *
          have bb2 : (y / (x : Int)).tmod 2 = bit := by rw [Int.tmod_eq_emod_of_nonneg (Int.ediv_nonneg hdg.1 (by omega))]; exact bb
          go_wp2_with fail
          refine (HT.out _ hs.out).mono ?_
          rintro r w3 ⟨v, L', rfl, hz2, _, ho, hb3⟩
          obtain ⟨A2, c2, rfl, hs2⟩ := ho.slis
          have hb4 := Lib.hid (bel_eld hb.out hb3)
          have hrow2 := Lib.hid (rowIs_below hrow.out hb3 hrow.out.lt)
          replace hs2 := Lib.hid hs2
          replace hz2 := Lib.hid hz2
          clear hb3 ho
          go_wp2_with fail
          go_roundw
          case rel => exact ⟨m + 1, L', A2, c2, by omega, by rw [← ex2]; go_num, rfl, hs2, hz2, hb4, hrow2⟩
          case measure => simp [intOf]; omega
        · obtain rfl : m = 8 := by omega
          rw [show 128 - 8 * k - 8 = 128 - 8 * (k + 1) by omega] at hs hz
          go_wp2_with fail
          go_roundw
          case rel => exact ⟨k + 1, L, A, c, by omega, by go_num, rfl, hs, hz, hb, hrow⟩
          case measure => simp [intOf]; omega
    · obtain rfl : k = 16 := by omega
      rw [show 128 - 8 * 16 = 0 by omega, tpb_0] at hs hz
      by_cases hN0 : N = 0
      · subst hN0
        obtain rfl := dz_zero hz.out
        have e1 : (strF (dtx 0 (ndg 0)) (ndg 0)) = { data := #[48] } := by decide +kernel
        replace e1 := Lib.hid e1
        go_wp2_with fail
        go_ret
        exact ⟨by rw [e1.out]; rfl, hb.out⟩
      · have hL := dz_dl hz.out hN0
        have hL39 := dz_39 hz.out hN
        have eL := DL_uniq (ndg_DL (N := N) (by omega)) hL
        replace eL := Lib.hid eL
        have hL1 := hL.1
        clear hrow
        replace hL := Lib.hid hL
        go_wp2_with fail
        go_loopw [9, 10] (fun o i wr2 => ∃ (k : Nat), k ≤ L ∧ o = .string (strF (dtx N L) k) ∧ i = .int .i64 ((L : Int) - 1 - k) ∧ Hid (Below w.heap.size w wr2) ∧ Hid (SlIs wr2 A L (iV (rdd N)))) (fun _ i _ => (intOf i + 1).toNat)
        case atStart => exact ⟨0, by omega, rfl, by go_num, hb, hs⟩
        case round =>
          clear hs hb
          obtain ⟨k, hk, rfl, rfl, hb, hs⟩ := hrel
          by_cases hkL : k < L
          · obtain ⟨j, hj⟩ : ∃ j : Nat, (L : Int) - 1 - k = j := ⟨L - 1 - k, by omega⟩
            have hjL : j < L := by omega
            obtain ⟨b, o, rfl, hbl, hc⟩ := hs.out (by omega)
            have c0 := hc j hjL
            rw [show iV (rdd N) j = .int .i64 ((N / 10 ^ j % 10 : Nat) : Int) from rfl] at c0
            have eD : dtx N L k = 48 + ((N / 10 ^ j % 10 : Nat) : Int) := by unfold dtx; rw [show L - 1 - k = j by omega]
            have hx : N / 10 ^ j % 10 < 10 := by omega
            have eS : strF (dtx N L) k ++ ({ data := #[48, 49, 50, 51, 52, 53, 54, 55, 56, 57] } : ByteArray).extract (N / 10 ^ j % 10) (N / 10 ^ j % 10 + 1) = strF (dtx N L) (k + 1) := by
              rw [show ({ data := #[48, 49, 50, 51, 52, 53, 54, 55, 56, 57] } : ByteArray) = strF (fun j => 48 + (j : Int)) 10 by decide +kernel, strF_ext (by omega) (by omega), strF_cat, show N / 10 ^ j % 10 + 1 - N / 10 ^ j % 10 = 1 by omega]
              refine strF_congr (fun i hi => ?_)
              unfold cat
              by_cases e : i < k
              · rw [if_pos e]
              · obtain rfl : i = k := by omega
                rw [if_neg e, eD]
                unfold shf
                simp
            rw [hj]
            clear hc eD
            generalize N / 10 ^ j % 10 = x at *
            replace eS := Lib.hid eS
            have ek := strF_size (dtx N L) k
            go_wp2_with fail
            first | (with_reducible refine rgrow2 (by kernel_rfl) (by kernel_rfl) ?_) | (refine rgrow (by kernel_rfl) (by kernel_rfl) ?_)
            repeat (go_big_quiet_step ((fail)))
            refine wpQuiet_nil ?_
            intro dr
            go_wp2_with fail
            refine ⟨⟨k + 1, by omega, by rw [eS.out], by go_num, ?_, ?_⟩, by simp [intOf]⟩
            · have t := hb.out
              show Below _ _ _
              (repeat (first | exact Below.refl _ _ | assumption | refine below_drewN ?_ _ | refine bel_grow ?_ _ | refine Below.drew ?_ | refine bel_alloc ?_ _ | refine bel_set ?_ (by first | exact Nat.le_refl _ | (simp; done) | (simp; omega) | omega) _ | refine bel_trans ?_ (by assumption)))
            · exact Lib.hid (hs.out.below (grow_below wr dr))
          · obtain rfl : k = L := by omega
            go_wp2_with fail
            go_ret
            exact ⟨by rw [eL.out]; rfl, hb.out⟩
end Go.Proofs.YtmlaehjjeadbeaaDoor
