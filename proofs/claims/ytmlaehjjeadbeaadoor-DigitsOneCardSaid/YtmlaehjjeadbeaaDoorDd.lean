/-
  digits.Text: the digit that its closure takes off, walked.
-/
import Derived.Test.YtmlaehjjeadbeaaDoorDb
import Derived.Test.YtmlaehjjeadbeaaDoorDc
import Derived.Test.YtmlaehjjeadbeaaDoorDa
import Derived.Test.YtmlaehjjeadbeaaDoorEq
import Derived.Test.YtmlaehjjeadbeaaDoorOwn
import Derived.Test.YtmlaehjjeadbeaaDoorWideV
namespace Go.Proofs.YtmlaehjjeadbeaaDoor
set_option linter.unusedVariables false
set_option linter.unusedSimpArgs false
open Go.RowKit

/-- w' is w but for block p, and what is new -/
def Chg (w w' : World) (p : Nat) : Prop := w.heap.size ≤ w'.heap.size ∧ (∀ b, b ≠ p → b < w.heap.size → w'.heap[b]? = w.heap[b]?) ∧ ∀ B w0, Below B w0 w → B ≤ p → Below B w0 w'
theorem Chg.of {w w2 : World} {p : Nat} (h : Below w.heap.size w w2) (hp : p < w.heap.size) (i j : Nat) (u v : Value) : Chg w ((w2.setCell ⟨p, i, none⟩ u).setCell ⟨p, j, none⟩ v) p := by
  refine ⟨by simpa using h.size, fun b hb hlt => ?_, fun B w0 h1 h2 => ?_⟩
  · rw [Below.heap_setCell _ _ _ _ hb, Below.heap_setCell _ _ _ _ hb, h.block b hlt]
  · have h3 : Below B w0 w2 := h1.trans (h.mono (by omega))
    exact (h3.setCell (p := ⟨p, i, none⟩) h2 _).setCell (p := ⟨p, j, none⟩) h2 _
theorem Chg.own {w w' : World} {p base : Nat} {v : Value} {n : Nat} {d : Nat → Int} (h : Chg w w' p) (ho : OwnB w base v n d) (hb : p < base) : OwnB w' base v n d := by
  obtain ⟨hl, h2⟩ := ho
  rcases h2 with ⟨rfl, rfl⟩ | ⟨g, cap, cur, rfl, hg, hh, h3, h4, h5, h6⟩
  · exact ⟨hl, Or.inl ⟨rfl, rfl⟩⟩
  · have hlt : g < w.heap.size := (Array.getElem?_eq_some_iff.1 hh).1
    exact ⟨hl, Or.inr ⟨g, cap, cur, rfl, hg, (h.2.1 g (by omega) hlt).trans hh, h3, h4, h5, h6⟩⟩

theorem div10_any (h l : Int) (hh : 0 ≤ h ∧ h < 10) (hl : 0 ≤ l ∧ l < 18446744073709551616) (w : World) : Calls Tryd.prog 13 #[.int .u64 h, .int .u64 l, .int .u64 10] w fun r w' => r = .returned (.tuple #[.int .u64 ((h * 18446744073709551616 + l) / 10), .int .u64 ((h * 18446744073709551616 + l) % 10)]) ∧ Below w.heap.size w w' := by
  by_cases h0 : h = 0
  · subst h0
    rw [Int.zero_mul, Int.zero_add]
    exact div10_lo l hl w
  · exact div10_hi h l (by omega) hl w

set_option maxHeartbeats 4000000 in
theorem tnext_any (p : Nat) (h l : Int) (hh : Wd h) (hl : Wd l) (w : World) (hp : Blk w p 24 #[.int .u64 h, .int .u64 l]) : Calls Tryd.prog 12 #[.pointer (some ⟨p, 0, none⟩)] w fun r w' =>
      r = .returned (.int .u8 (48 + V h l % 10)) ∧ Blk w' p 24 #[.int .u64 (V h l / 10 / 18446744073709551616), .int .u64 (V h l / 10 % 18446744073709551616)] ∧ Chg w w' p := by
  unfold Wd at hh hl
  have HD := Lib.hid (fun w => div10_any (h % 10) l (by omega) hl w)
  have e1 : V h l / 10 / 18446744073709551616 = h / 10 := by unfold V; omega
  have e2 : V h l / 10 % 18446744073709551616 = (h % 10 * 18446744073709551616 + l) / 10 := by unfold V; omega
  have e3 : V h l % 10 = (h % 10 * 18446744073709551616 + l) % 10 := by unfold V; omega
  rw [e1, e2, e3]
  have b1 : 0 ≤ (h % 10 * 18446744073709551616 + l) % 10 ∧ (h % 10 * 18446744073709551616 + l) % 10 < 10 := by omega
  clear e1 e2 e3
  generalize (h % 10 * 18446744073709551616 + l) / 10 = q at *
  generalize (h % 10 * 18446744073709551616 + l) % 10 = d at *
  have c0 := hp.cell 0
  have c1 := hp.cell 1
  have f0 := hp.frozen 0
  have f1 := hp.frozen 1
  have pl := hp.lt
  simp at c0 c1
  have hp2 := Lib.hid hp
  clear hp
  go_enter Tryd.func12, Tryd.ntmps12
  go_wp2_with fail
  first | (with_reducible refine rgrow2 (by kernel_rfl) (by kernel_rfl) ?_) | (refine rgrow (by kernel_rfl) (by kernel_rfl) ?_)
  repeat (go_big_quiet_step ((fail)))
  refine wpQuiet_nil ?_
  intro dr
  go_wp2_with fail
  refine (HD.out _).mono ?_
  rintro e w2 ⟨rfl, hb⟩
  have hb2 : Below w.heap.size w w2 := bel_eld (grow_below w dr) hb
  have gp := hp2.out.kept hb2
  have c0 := gp.cell 0
  have c1 := gp.cell 1
  have f0 := gp.frozen 0
  have f1 := gp.frozen 1
  have pl2 := gp.lt
  simp at c0 c1
  replace gp := Lib.hid gp
  replace hb2 := Lib.hid hb2
  clear hb hp2
  go_wp2_with fail
  go_ret
  exact ⟨rfl, gp.out.two, Chg.of hb2.out pl 0 1 _ _⟩

theorem V_z {h l : Int} (hh : Wd h) (hl : Wd l) : V h l = 0 ↔ h = 0 ∧ l = 0 := by unfold V Wd at *; omega
theorem toV (N : Nat) : V ((N : Int) / 18446744073709551616) ((N : Int) % 18446744073709551616) = N := V_of N
theorem div10_nat (N k : Nat) : ((N / 10 ^ k : Nat) : Int) / 10 = ((N / 10 ^ (k + 1) : Nat) : Int) := by
  rw [Nat.pow_succ, ← Nat.div_div_eq_div_mul]; omega
theorem wd_nat {M : Nat} (h : M < 340282366920938463463374607431768211456) : Wd ((M : Int) / 18446744073709551616) ∧ Wd ((M : Int) % 18446744073709551616) := by unfold Wd; omega
set_option maxHeartbeats 8000000 in
theorem text_any (N L : Nat) (hN : N < 340282366920938463463374607431768211456) (hL : DL N L) (w : World) : Calls Tryd.prog 5 #[.agg #[.int .u64 ((N : Int) / 18446744073709551616), .int .u64 ((N : Int) % 18446744073709551616)]] w fun r w' =>
      r = .returned (.string (strF (dtx N L) L)) ∧ Below w.heap.size w w' := by
  obtain ⟨i0, hi0, hz0, hz1, hz2⟩ := info_parts info_u8
  replace hi0 := Lib.hid hi0
  replace hz0 := Lib.hid hz0
  replace hz1 := Lib.hid hz1
  replace hz2 := Lib.hid hz2
  have HN : ∀ (M : Nat), M < 340282366920938463463374607431768211456 → ∀ (p : Nat) (w : World), Blk w p 24 #[.int .u64 ((M : Int) / 18446744073709551616), .int .u64 ((M : Int) % 18446744073709551616)] →
      Calls Tryd.prog 12 #[.pointer (some ⟨p, 0, none⟩)] w fun r w' => r = .returned (.int .u8 (48 + ((M % 10 : Nat) : Int))) ∧ Blk w' p 24 #[.int .u64 (((M / 10 : Nat) : Int) / 18446744073709551616), .int .u64 (((M / 10 : Nat) : Int) % 18446744073709551616)] ∧ Chg w w' p := by
    intro M hM p w hp
    have h := tnext_any p ((M : Int) / 18446744073709551616) ((M : Int) % 18446744073709551616) (wd_nat hM).1 (wd_nat hM).2 w hp
    rw [toV, show (M : Int) / 10 = ((M / 10 : Nat) : Int) by omega, show (M : Int) % 10 = ((M % 10 : Nat) : Int) by omega] at h
    exact h
  replace HN := Lib.hid HN
  have hb0 := bel_alloc (Below.refl w.heap.size w) (.cells #[.int .u64 ((N : Int) / 18446744073709551616), .int .u64 ((N : Int) % 18446744073709551616)] 24)
  have hB0 := Blk.new w 24 #[.int .u64 ((N : Int) / 18446744073709551616), .int .u64 ((N : Int) % 18446744073709551616)]
  go_enter Tryd.func5, Tryd.ntmps5
  go_wp2_with fail
  refine (HN.out N hN _ _ hB0).mono ?_
  rintro r w1 ⟨rfl, hB1, hC⟩
  have hb1 := hC.2.2 _ _ hb0 (Nat.le_refl _)
  have hs1 : w.heap.size + 1 ≤ w1.heap.size := by have := hC.1; simpa using this
  clear hb0 hB0 hC
  have hx : 0 ≤ ((N % 10 : Nat) : Int) ∧ ((N % 10 : Nat) : Int) < 10 := by omega
  have ho : OwnB (w1.alloc (.cells #[.int .u8 (48 + ((N % 10 : Nat) : Int))] 5)) (w.heap.size + 1) (.slice (some ⟨w1.heap.size, 0, none⟩) 1 1) 1 (rdt N) :=
    row_own (cap := 1) (f := yV (rdt N)) (rowIs_of (n := 1) rfl rfl (fun i hi => by
      obtain rfl : i = 0 := by omega
      simp [yV, rdt])) (fun i hi => rfl) hs1 (Nat.le_refl _) (by simp [maxLen])
  have hb2 := Lib.hid (bel_alloc hb1 (.cells #[.int .u8 (48 + ((N % 10 : Nat) : Int))] 5))
  have hB2 := Lib.hid (hB1.alloc (.cells #[.int .u8 (48 + ((N % 10 : Nat) : Int))] 5))
  replace ho := Lib.hid ho
  clear hb1 hB1
  go_wp2_with fail
  go_loopw [4] (fun u wr => ∃ k, 1 ≤ k ∧ k ≤ L ∧ Hid (OwnB wr (w.heap.size + 1) u k (rdt N)) ∧ Hid (Below w.heap.size w wr) ∧ Hid (Blk wr w.heap.size 24 #[.int .u64 (((N / 10 ^ k : Nat) : Int) / 18446744073709551616), .int .u64 (((N / 10 ^ k : Nat) : Int) % 18446744073709551616)]))
    (fun u _ => L - lenV u)
  case atStart =>
    exact ⟨1, Nat.le_refl _, hL.1, ho.out, hb2.out, hB2.out⟩
  case round =>
    clear ho hb2 hB2
    obtain ⟨k, hk1, hk2, ho, hb, hB⟩ := hrel
    obtain ⟨Au, cu, rfl⟩ := ho.out.shape
    by_cases hM : N / 10 ^ k = 0
    · have hkL : k = L := by
        have h1 : N < 10 ^ k := by
          rcases Nat.lt_or_ge N (10 ^ k) with h | h
          · exact h
          · have := Nat.div_pos h (Nat.pow_pos (by omega)); omega
        obtain ⟨a1, a2, a3⟩ := hL
        rcases Nat.lt_or_ge k L with h | h
        · rcases a3 with a3 | a3
          · omega
          · have : 10 ^ k ≤ 10 ^ (L - 1) := Nat.pow_le_pow_right (by omega) (by omega)
            omega
        · omega
      subst hkL
      rw [hM] at hB
      obtain ⟨g, cap, f, e, hg, h1, h2, hr, hf⟩ := own_row ho.out hk1
      cases e
      have HR := Lib.hid (fun c => reverse_any g cu k c f hk1 h1 h2 wr hr (fun i hi => ⟨_, hf i hi⟩))
      replace hf := Lib.hid hf
      have b0 := (hB.out).cell 0
      have b1 := (hB.out).cell 1
      have bf0 := (hB.out).frozen 0
      have bf1 := (hB.out).frozen 1
      have bl := (hB.out).lt
      simp at b0 b1
      clear ho hr
      go_wp2_with fail
      refine (HR.out _).mono ?_
      rintro r w2 ⟨rfl, ⟨f2, hr2, hf2⟩, hb2⟩
      have hb3 := Lib.hid (hb2 _ _ hb.out (by omega))
      have hs : SlIs w2 (some ⟨g, 0, none⟩) k (yV (dtx N k)) := (SlIs.row hr2 h1).congr (fun j hj => by
        rw [hf2 j hj, hf.out _ (by omega)]
        unfold yV rdt dtx
        rfl)
      have q := conv8 hs
      clear hr2 hf2 hb2 hs
      go_wp2_with fail
      go_ret
      exact ⟨rfl, hb3.out⟩
    · have hkL : k < L := by
        rcases Nat.lt_or_ge k L with h | h
        · exact h
        · obtain rfl : k = L := by omega
          exact absurd (Nat.div_eq_of_lt hL.2.1) hM
      have hlt : N / 10 ^ k < 340282366920938463463374607431768211456 := Nat.lt_of_le_of_lt (Nat.div_le_self _ _) hN
      have HC := Lib.hid (HN.out (N / 10 ^ k) hlt w.heap.size wr hB.out)
      have e1 : N / 10 ^ k / 10 = N / 10 ^ (k + 1) := by rw [Nat.div_div_eq_div_mul, ← Nat.pow_succ]
      rw [e1] at HC
      have e2 : yL (rdt N) (k + 1) = yL (rdt N) k ++ [.int .u8 (48 + ((N / 10 ^ k % 10 : Nat) : Int))] := rfl
      replace e2 := Lib.hid e2
      have hne : (((N / 10 ^ k : Nat) : Int) / 18446744073709551616 == 0 && ((N / 10 ^ k : Nat) : Int) % 18446744073709551616 == 0) = false := by
        rw [Bool.eq_false_iff]
        intro h
        generalize N / 10 ^ k = M at h hM
        simp at h
        omega
      replace hM := Lib.hid hM
      have hx : 0 ≤ ((N / 10 ^ k % 10 : Nat) : Int) ∧ ((N / 10 ^ k % 10 : Nat) : Int) < 10 := by omega
      clear e1
      have b0 := (hB.out).cell 0
      have b1 := (hB.out).cell 1
      have bf0 := (hB.out).frozen 0
      have bf1 := (hB.out).frozen 1
      have bl := (hB.out).lt
      generalize ((N / 10 ^ k : Nat) : Int) / 18446744073709551616 = mh at *
      generalize ((N / 10 ^ k : Nat) : Int) % 18446744073709551616 = ml at *
      generalize ((N / 10 ^ k % 10 : Nat) : Int) = dg at *
      go_wp2_with fail
      refine HC.out.mono ?_
      rintro r w2 ⟨rfl, hB2, hC⟩
      have ho2 := hC.own ho.out (by omega)
      have hs2 := hC.1
      have hs0 := hb.out.size
      have hb3 := Lib.hid (hC.2.2 _ _ hb.out (Nat.le_refl _))
      replace hB2 := Lib.hid hB2
      clear hC HC ho hb hB
      unfold OwnB at ho2
      replace ho2 := Lib.hid ho2
      have hkL2 : L ≤ 100 := by
        obtain ⟨a1, a2, a3⟩ := hL
        rcases Nat.lt_or_ge 100 L with h | h
        · rcases a3 with a3 | a3
          · omega
          · have : (10 : Nat) ^ 100 ≤ 10 ^ (L - 1) := Nat.pow_le_pow_right (by omega) (by omega)
            have : (340282366920938463463374607431768211456 : Nat) < 10 ^ 100 := by decide
            omega
        · exact h
      go_wp2_with (at_builtin; refine wpList_append_own _ rfl (.tmp 12) (.tmp 15) _ rfl (w.heap.size + 1) 5 i0 _ 1 1 Tryd.underlying38 hi0.out hz0.out hz1.out hz2.out rfl (by omega) (.slice Au k cu) k (yL (rdt N) k) rfl (ho2.out.alloc _) ⟨w2.heap.size, 0, none⟩ 1 1 [.int .u8 (48 + dg)] rfl rfl ?c1 ?c2 ?c3 ?c4 ?c5 ?_; rotate_right; intro v' w3 hown1 hg1 _)
      case c1 => exact news_blk (Blk.new _ _ _)
      case c2 => intro u hu; simp at hu; rcases hu with rfl; rfl
      case c3 => simp only [maxLen]; omega
      case c4 => omega
      case c5 => simp; omega
      go_roundw
      case rel =>
        refine ⟨k + 1, by omega, by omega, ?_, ?_, ?_⟩
        · exact Lib.hid (by unfold OwnB; rw [e2.out]; exact hown1)
        · exact Lib.hid (Below.grown (Below.alloc hb3.out (by omega) _) hg1 (by simp; omega) (fun j hj => by have := (ho2.out.lt j hj).1; omega))
        · have hb4 : Below (w.heap.size + 1) w2 w3 := Below.grown (Below.alloc (Below.refl _ w2) (by omega) _) hg1 (by simp; omega) (fun j hj => (ho2.out.lt j hj).1)
          exact Lib.hid (hB2.out.below hb4 (by omega))
      case measure =>
        obtain ⟨A', c', rfl⟩ := OwnB.shape (show OwnB w3 (w.heap.size + 1) v' (k + 1) (rdt N) by unfold OwnB; rw [e2.out]; exact hown1)
        show L - (k + 1) < L - k
        omega
end Go.Proofs.YtmlaehjjeadbeaaDoor
