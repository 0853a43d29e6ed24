/-
  Rows of integers of the call's own; the document's twice, walked.
-/
import Derived.Test.YtmlaehjjeadbeaaDoorDa
import Derived.Test.YtmlaehjjeadbeaaDoorRefA
import Derived.Test.YtmlaehjjeadbeaaDoorWideV
namespace Go.Proofs.YtmlaehjjeadbeaaDoor
set_option linter.unusedVariables false
set_option linter.unusedSimpArgs false
open Go.RowKit

theorem info_int : (Tryd.prog.info? 3).map (fun i => (i.zero, i.size, i.bytes)) = some (some (.int .i64 0), 1, 8) := by kernel_rfl
/-- the first k of the integers d -/
def iL (d : Nat → Int) : Nat → List Value
  | 0 => []
  | k + 1 => iL d k ++ [.int .i64 (d k)]
theorem iL_len (d : Nat → Int) : ∀ k, (iL d k).length = k
  | 0 => rfl
  | k + 1 => by simp [iL, iL_len d k]
theorem iL_at (d : Nat → Int) : ∀ k j u, (iL d k)[j]? = some u → u = iV d j
  | 0, j, u, e => by simp [iL] at e
  | k + 1, j, u, e => by
    simp only [iL] at e
    rcases Nat.lt_or_ge j k with hj | hj
    · rw [List.getElem?_append_left (by rw [iL_len]; exact hj)] at e
      exact iL_at d k j u e
    · rw [List.getElem?_append_right (by rw [iL_len]; exact hj), iL_len] at e
      have h2 : j - k = 0 := by
        rcases Nat.eq_zero_or_pos (j - k) with h2 | h2
        · exact h2
        · rw [List.getElem?_eq_none (by simp; omega)] at e; cases e
      rw [h2] at e
      cases e
      obtain rfl : j = k := by omega
      rfl
/-- a row of the call's own that reads as n integers d -/
def OwnI (w : World) (base : Nat) (v : Value) (n : Nat) (d : Nat → Int) : Prop := w.ownsRow base 3 1 v n (iL d n)
theorem OwnI.slis {w : World} {base : Nat} {v : Value} {n : Nat} {d : Nat → Int} (h : OwnI w base v n d) : ∃ A c, v = .slice A n c ∧ SlIs w A n (iV d) := by
  obtain ⟨A, c, h1, h2⟩ := own_slis h (iL_at d n)
  exact ⟨A, c, h1, by simpa using h2⟩
theorem OwnI.shape {w : World} {base : Nat} {v : Value} {n : Nat} {d : Nat → Int} (h : OwnI w base v n d) : ∃ A c, v = .slice A n c := by
  obtain ⟨A, c, e, _⟩ := h.slis
  exact ⟨A, c, e⟩
theorem ownI_nil {w : World} {base g : Nat} {d : Nat → Int} (h : Blk w g 3 #[]) (hb : base ≤ g) : OwnI w base (.slice (some ⟨g, 0, none⟩) 0 0) 0 d :=
  ⟨rfl, Or.inr ⟨g, 0, #[], rfl, hb, h, Nat.le_refl _, by simp [maxLen], rfl, rfl⟩⟩

/-- digit j of N, the lowest first -/
def rdd (N : Nat) (j : Nat) : Int := ((N / 10 ^ j % 10 : Nat) : Int)
/-- L digits hold N, and no nought is ahead -/
def DZ (N L : Nat) : Prop := N < 10 ^ L ∧ (L = 0 ∨ 10 ^ (L - 1) ≤ N)
/-- what is carried -/
def twc (N b k : Nat) : Nat := (2 * (N % 10 ^ k) + b) / 10 ^ k
theorem tw_step (N b k : Nat) : (2 * N + b) / 10 ^ k % 10 = (2 * (N / 10 ^ k % 10) + twc N b k) % 10 ∧ twc N b (k + 1) = (2 * (N / 10 ^ k % 10) + twc N b k) / 10 := by
  have p : 0 < 10 ^ k := Nat.pow_pos (by omega)
  unfold twc
  rw [Nat.pow_succ]
  generalize hP : 10 ^ k = P at *
  rw [Nat.mod_mul, ← Nat.div_div_eq_div_mul]
  have e : N = P * (N / P) + N % P := (Nat.div_add_mod N P).symm
  generalize hQ : N / P = Q at *
  generalize hf : N % P = f at *
  have e1 : 2 * N + b = P * (2 * Q) + (2 * f + b) := by rw [e, Nat.mul_add, Nat.mul_left_comm]; omega
  have e2 : 2 * (f + P * (Q % 10)) + b = P * (2 * (Q % 10)) + (2 * f + b) := by rw [Nat.mul_add, Nat.mul_left_comm]; omega
  rw [e1, e2, Nat.mul_add_div p, Nat.mul_add_div p]
  omega
theorem twc_lo {N b : Nat} (hb : b ≤ 1) (k : Nat) : twc N b k ≤ 1 := by
  unfold twc
  have p : 0 < 10 ^ k := Nat.pow_pos (by omega)
  have := Nat.mod_lt N p
  have h : (2 * (N % 10 ^ k) + b) / 10 ^ k < 2 := by rw [Nat.div_lt_iff_lt_mul p]; omega
  omega
theorem twc_0 (N b : Nat) : twc N b 0 = b := by unfold twc; simp [Nat.mod_one]
theorem twc_end {N b L : Nat} (h : N < 10 ^ L) : twc N b L = (2 * N + b) / 10 ^ L := by unfold twc; rw [Nat.mod_eq_of_lt h]

set_option maxHeartbeats 8000000 in
theorem twice_any (N b L : Nat) (hN : N < 340282366920938463463374607431768211456) (hb : b ≤ 1) (hL : DZ N L) (hL4 : L ≤ 40) (A : Option Addr) (c : Nat) (w : World) (hs : SlIs w A L (iV (rdd N))) : Calls Tryd.prog 20 #[.slice A L c, .int .i64 b] w fun r w' =>
      ∃ v L', r = .returned v ∧ DZ (2 * N + b) L' ∧ L' ≤ L + 1 ∧ OwnI w' w.heap.size v L' (rdd (2 * N + b)) ∧ Below w.heap.size w w' := by
  obtain ⟨i0, hi0, hz0, hz1, hz2⟩ := info_parts info_int
  replace hi0 := Lib.hid hi0
  replace hz0 := Lib.hid hz0
  replace hz1 := Lib.hid hz1
  replace hz2 := Lib.hid hz2
  replace hs := Lib.hid hs
  go_enter Tryd.func20, Tryd.ntmps20
  go_wp2_with fail
  go_loopw [5, 6, 7] (fun u z i wr => ∃ k, k ≤ L ∧ i = .int .i64 k ∧ z = .int .i64 (twc N b k) ∧ Hid (OwnI wr w.heap.size u k (rdd (2 * N + b))) ∧ Hid (Below w.heap.size w wr))
    (fun _ _ i _ => L - (intOf i).toNat)
  case atStart =>
    refine ⟨0, by omega, rfl, by rw [twc_0], ?_, ?_⟩
    · exact Lib.hid (ownI_nil (Blk.new _ _ _) (Nat.le_refl _))
    · exact Lib.hid (bel_alloc (Below.refl _ _) _)
  case round =>
    obtain ⟨k, hk, rfl, rfl, ho, hbl⟩ := hrel
    obtain ⟨Au, cu, rfl⟩ := ho.out.shape
    have hc1 := twc_lo (N := N) hb k
    by_cases hlt : k < L
    · obtain ⟨g, o, rfl, hg, hc⟩ := hs.out (by omega)
      have c0 := keepc hbl.out (hc k hlt)
      have gl : g < wr.heap.size := Nat.lt_of_lt_of_le hg hbl.out.size
      have st := tw_step N b k
      rw [show iV (rdd N) k = .int .i64 ((N / 10 ^ k % 10 : Nat) : Int) from rfl] at c0
      have hx : N / 10 ^ k % 10 < 10 := by omega
      have e2 : iL (rdd (2 * N + b)) (k + 1) = iL (rdd (2 * N + b)) k ++ [.int .i64 (((2 * N + b) / 10 ^ k % 10 : Nat) : Int)] := rfl
      rw [st.1] at e2
      have e3 := st.2
      clear st hc
      generalize N / 10 ^ k % 10 = e at *
      generalize twc N b k = z at *
      have w1 : IntKind.i64.wrap (2 * (e : Int)) = 2 * e := by simp [IntKind.wrap, IntKind.bits, IntKind.signed]; omega
      have w2 : IntKind.i64.wrap (2 * (e : Int) + z) = 2 * e + z := by simp [IntKind.wrap, IntKind.bits, IntKind.signed]; omega
      have ho2 := ho.out
      unfold OwnI at ho2
      replace ho2 := Lib.hid ho2
      replace e2 := Lib.hid e2
      have hs0 := hbl.out.size
      go_wp2_with (at_builtin; refine wpList_append_own _ rfl (.tmp 24) (.tmp 27) _ rfl w.heap.size 3 i0 _ 1 8 Tryd.underlying44 hi0.out hz0.out hz1.out hz2.out rfl (by omega) (.slice Au k cu) k (iL (rdd (2 * N + b)) k) rfl (ho2.out.alloc _) ⟨wr.heap.size, 0, none⟩ 1 1 [.int .i64 ((2 * (e : Int) + z) % 10)] rfl rfl ?c1 ?c2 ?c3 ?c4 ?c5 ?_; rotate_right; intro v' w3 hown1 hg1 _)
      case c1 => exact news_blk (Blk.new _ _ _)
      case c2 => intro u hu; simp at hu; rcases hu with rfl; rfl
      case c3 => simp only [maxLen]; omega
      case c4 => omega
      case c5 => simp; omega
      go_roundw
      case rel =>
        refine ⟨k + 1, by omega, by go_num, ?_, ?_, ?_⟩
        · rw [e3]; congr 1
        · exact Lib.hid (by
            unfold OwnI
            rw [e2.out, show (((2 * e + z) % 10 : Nat) : Int) = (2 * (e : Int) + z) % 10 by omega]
            exact hown1)
        · exact Lib.hid (Below.grown (Below.alloc hbl.out (by omega) _) hg1 (by simp; omega) (fun j hj => (ho2.out.lt j hj).1))
      case measure => simp [intOf]; omega
    · obtain rfl : k = L := by omega
      have eC := twc_end (N := N) (b := b) hL.1
      have hN2 : 2 * N + b < 2 * 10 ^ k := by have := hL.1; omega
      have hC2 : 0 < twc N b k → 10 ^ k ≤ 2 * N + b := by
        intro h
        rw [eC] at h
        exact (Nat.div_pos_iff.1 h).2
      have hC1 : twc N b k = 0 → 2 * N + b < 10 ^ k := by
        intro h
        rw [eC] at h
        rcases Nat.div_eq_zero_iff.1 h with h | h
        · exact absurd h (by have := Nat.pow_pos (n := k) (show 0 < 10 by omega); omega)
        · exact h
      have e2 : twc N b k = 1 → iL (rdd (2 * N + b)) (k + 1) = iL (rdd (2 * N + b)) k ++ [.int .i64 1] := by
        intro h
        show _ ++ [Value.int .i64 (((2 * N + b) / 10 ^ k % 10 : Nat) : Int)] = _
        rw [← eC, h]
        rfl
      clear eC
      generalize twc N b k = z at *
      have hs0 := hbl.out.size
      have ho2 := ho.out
      unfold OwnI at ho2
      replace ho2 := Lib.hid ho2
      replace hL := Lib.hid hL
      rcases (by omega : z = 0 ∨ z = 1) with rfl | rfl
      · have hC := Lib.hid (hC1 rfl)
        clear hC1 hC2 e2 hN2
        go_wp2_with fail
        go_ret
        refine ⟨_, k, rfl, ⟨hC.out, ?_⟩, by omega, ho.out, hbl.out⟩
        rcases hL.out.2 with h | h
        · exact Or.inl h
        · exact Or.inr (by omega)
      · have hC := Lib.hid (hC2 (by omega))
        have e3 := Lib.hid (e2 rfl)
        replace hN2 := Lib.hid hN2
        clear hC1 hC2 e2
        go_wp2_with (at_builtin; refine wpList_append_own _ rfl (.tmp 33) (.tmp 35) _ rfl w.heap.size 3 i0 _ 1 8 Tryd.underlying44 hi0.out hz0.out hz1.out hz2.out rfl (by omega) (.slice Au k cu) k (iL (rdd (2 * N + b)) k) rfl (ho2.out.alloc _) ⟨wr.heap.size, 0, none⟩ 1 1 [.int .i64 1] rfl rfl ?c1 ?c2 ?c3 ?c4 ?c5 ?_; rotate_right; intro v' w3 hown1 hg1 _)
        case c1 => exact news_blk (Blk.new _ _ _)
        case c2 => intro u hu; simp at hu; rcases hu with rfl; rfl
        case c3 => simp only [maxLen]; omega
        case c4 => omega
        case c5 => simp; omega
        go_ret
        refine ⟨_, k + 1, rfl, ⟨?_, Or.inr hC.out⟩, Nat.le_refl _, ?_, ?_⟩
        · rw [Nat.pow_succ]; have := hN2.out; omega
        · unfold OwnI
          rw [e3.out]
          exact hown1
        · exact Below.grown (Below.alloc hbl.out (by omega) _) hg1 (by simp; omega) (fun j hj => (ho2.out.lt j hj).1)
end Go.Proofs.YtmlaehjjeadbeaaDoor
