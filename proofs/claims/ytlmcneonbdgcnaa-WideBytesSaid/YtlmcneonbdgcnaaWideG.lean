/-
  The chapter's examples of sums; the walk of the statement WideSums.
-/
import Derived.Test.YtlmcneonbdgcnaaWideF
import Derived.Test.YtlmcneonbdgcnaaAppend
namespace Go.Proofs.Ytlmcneonbdgcnaa
set_option linter.unusedVariables false
set_option linter.unusedSimpArgs false
open Go.RowKit

theorem wfixed_any (w : World) : Calls Try.prog 8 #[] w fun r w' => r = .returned (.bool true) ∧ Below w.heap.size w w' := by
  have u0 : Wd 0 := by unfold Wd; omega
  have u1 : Wd 1 := by unfold Wd; omega
  have u3 : Wd 3 := by unfold Wd; omega
  have u5 : Wd 5 := by unfold Wd; omega
  have um : Wd 18446744073709551615 := by unfold Wd; omega
  have h1 := fun w => add_any 0 18446744073709551615 0 1 u0 um u0 u1 w
  have h2 := fun w => add_any 18446744073709551615 18446744073709551615 0 1 um um u0 u1 w
  have h3 := fun w => rest_any 0 3 0 5 u0 u3 u0 u5 w
  rw [show addH 0 18446744073709551615 0 1 = 1 by decide, show addL 0 18446744073709551615 0 1 = 0 by decide, show addB 0 18446744073709551615 0 1 = true by decide] at h1
  rw [show addH 18446744073709551615 18446744073709551615 0 1 = 0 by decide, show addL 18446744073709551615 18446744073709551615 0 1 = 0 by decide, show addB 18446744073709551615 18446744073709551615 0 1 = false by decide] at h2
  rw [show subH 0 3 0 5 = 0 by decide, show subL 0 3 0 5 = 0 by decide] at h3
  replace h1 := Lib.hid h1
  replace h2 := Lib.hid h2
  replace h3 := Lib.hid h3
  go_enter Try.func8, Try.ntmps8
  go_wp2_with (first | (go_at_call 18; first | ((with_reducible refine (grow_call (of_any _ _)).mono ?_); rintro e w' ⟨rfl, d1, rfl⟩) | ((with_reducible refine (gro (of_any _ _)).mono ?_); rintro e w' ⟨rfl, d1, rfl⟩)) | (go_at_call 19; first | ((with_reducible refine (grow_call (wtop_any _)).mono ?_); rintro e w' ⟨rfl, d1, rfl⟩) | ((with_reducible refine (gro (wtop_any _)).mono ?_); rintro e w' ⟨rfl, d1, rfl⟩)) | (go_at_call 11; first | ((with_reducible refine (grow_call (h1.out _)).mono ?_); rintro e w' ⟨rfl, d1, rfl⟩) | ((with_reducible refine (gro (h1.out _)).mono ?_); rintro e w' ⟨rfl, d1, rfl⟩) | ((with_reducible refine (grow_call (h2.out _)).mono ?_); rintro e w' ⟨rfl, d1, rfl⟩) | ((with_reducible refine (gro (h2.out _)).mono ?_); rintro e w' ⟨rfl, d1, rfl⟩)) | (go_at_call 15; first | ((with_reducible refine (grow_call (h3.out _)).mono ?_); rintro e w' ⟨rfl, d1, rfl⟩) | ((with_reducible refine (gro (h3.out _)).mono ?_); rintro e w' ⟨rfl, d1, rfl⟩)))
  go_ret
  exact ⟨rfl, (by repeat (first | exact Below.refl _ _ | assumption | refine below_drewN ?_ _ | refine bel_grow ?_ _ | refine Below.drew ?_ | refine bel_alloc ?_ _ | refine bel_set ?_ (by first | exact Nat.le_refl _ | (simp; done) | (simp; omega) | omega) _ | refine bel_trans ?_ (by assumption)))⟩

theorem info128 : (Try.prog.info? 26).map (fun i => (i.zero, i.size, i.bytes)) = some (some (.agg #[.int .u64 0, .int .u64 0]), 2, 16) := by kernel_rfl

/-- the cells of the last m of n pairs, the last one first -/
def revL (h l : Nat → Int) (n : Nat) : Nat → List Value
  | 0 => []
  | m + 1 => revL h l n m ++ [.int .u64 (h (n - 1 - m)), .int .u64 (l (n - 1 - m))]
theorem revL_len (h l : Nat → Int) (n : Nat) : ∀ m, (revL h l n m).length = m * 2
  | 0 => rfl
  | m + 1 => by simp only [revL, List.length_append, revL_len h l n m]; simp; omega
theorem revL_at (h l : Nat → Int) (n : Nat) : ∀ m j u, (revL h l n m)[j]? = some u → u = pV (fun i => h (n - 1 - i)) (fun i => l (n - 1 - i)) j
  | 0, j, u, e => by simp [revL] at e
  | m + 1, j, u, e => by
    simp only [revL] at e
    rcases Nat.lt_or_ge j (m * 2) with hj | hj
    · rw [List.getElem?_append_left (by rw [revL_len]; exact hj)] at e
      exact revL_at h l n m j u e
    · rw [List.getElem?_append_right (by rw [revL_len]; exact hj), revL_len] at e
      have h2 : j - m * 2 < 2 := by
        rcases Nat.lt_or_ge (j - m * 2) 2 with h2 | h2
        · exact h2
        · rw [List.getElem?_eq_none (by simpa using h2)] at e; cases e
      rcases (by omega : j - m * 2 = 0 ∨ j - m * 2 = 1) with h0 | h0
      · obtain rfl : j = m * 2 := by omega
        rw [h0] at e
        cases e
        rw [pV_0]
      · obtain rfl : j = m * 2 + 1 := by omega
        rw [h0] at e
        cases e
        rw [pV_1]
theorem tot_shift (h l : Nat → Int) : ∀ n, tot h l (n + 1) = V (h 0) (l 0) + tot (fun i => h (i + 1)) (fun i => l (i + 1)) n
  | 0 => by simp only [tot]; omega
  | n + 1 => by
    rw [show tot h l (n + 1 + 1) = tot h l (n + 1) + V (h (n + 1)) (l (n + 1)) from rfl, tot_shift h l n]
    simp only [tot]; omega
theorem tot_congr {h l h' l' : Nat → Int} : ∀ {n : Nat}, (∀ i, i < n → h i = h' i ∧ l i = l' i) → tot h l n = tot h' l' n
  | 0, _ => rfl
  | n + 1, e => by simp only [tot]; rw [tot_congr (n := n) (fun i hi => e i (by omega)), (e n (by omega)).1, (e n (by omega)).2]
theorem tot_rev : ∀ (n : Nat) (h l : Nat → Int), tot (fun i => h (n - 1 - i)) (fun i => l (n - 1 - i)) n = tot h l n
  | 0, _, _ => rfl
  | n + 1, h, l => by
    rw [tot_shift h l n, ← tot_rev n (fun i => h (i + 1)) (fun i => l (i + 1))]
    simp only [tot]
    rw [show n + 1 - 1 - n = 0 from by omega, Int.add_comm]
    congr 1
    exact tot_congr (fun i hi => by rw [show n + 1 - 1 - i = n - 1 - i + 1 from by omega]; exact ⟨rfl, rfl⟩)
theorem sum_rev (h l : Nat → Int) (n : Nat) : sumB (fun i => h (n - 1 - i)) (fun i => l (n - 1 - i)) n = sumB h l n ∧ sumH (fun i => h (n - 1 - i)) (fun i => l (n - 1 - i)) n = sumH h l n ∧ sumL (fun i => h (n - 1 - i)) (fun i => l (n - 1 - i)) n = sumL h l n := by
  unfold sumH sumL sumB
  rw [tot_rev]
  exact ⟨rfl, rfl, rfl⟩

set_option maxHeartbeats 1000000 in
theorem wideSums_far (A : Option Addr) (n c : Nat) (hn : 200 < n) (hm : n ≤ 9223372036854775807) (w : World) : Calls Try.prog 3 #[.slice A n c] w fun r w' => r = .returned (.bool true) ∧ Below w.heap.size w w' := by
  have hn' : decide ((200 : Int) < n) = true := by simp; omega
  go_enter Try.func3, Try.ntmps3
  go_wp2_with (first | (go_at_call 8; first | ((with_reducible refine (grow_call (wfixed_any _)).mono ?_); rintro e w' ⟨rfl, d1, rfl⟩) | ((with_reducible refine (gro (wfixed_any _)).mono ?_); rintro e w' ⟨rfl, d1, rfl⟩)))
  go_ret
  exact ⟨rfl, (by repeat (first | exact Below.refl _ _ | assumption | refine below_drewN ?_ _ | refine bel_grow ?_ _ | refine Below.drew ?_ | refine bel_alloc ?_ _ | refine bel_set ?_ (by first | exact Nat.le_refl _ | (simp; done) | (simp; omega) | omega) _ | refine bel_trans ?_ (by assumption)))⟩

set_option maxHeartbeats 2000000 in
theorem wideSums_near (A : Option Addr) (n c : Nat) (h l : Nat → Int) (hn : n ≤ 200) (hd : ∀ i, i < n → Wd (h i) ∧ Wd (l i)) (w : World) (hs : SlIs w A (n * 2) (pV h l)) :
    Calls Try.prog 3 #[.slice A n c] w fun r w' => r = .returned (.bool true) ∧ Below w.heap.size w w' := by
  obtain ⟨i0, hi0, hz0, hz1, hz2⟩ := info_parts info128
  replace hs := Lib.hid hs
  replace hd := Lib.hid hd
  replace hi0 := Lib.hid hi0
  replace hz0 := Lib.hid hz0
  replace hz1 := Lib.hid hz1
  replace hz2 := Lib.hid hz2
  have hn' : decide ((200 : Int) < n) = false := by simp; omega
  go_enter Try.func3, Try.ntmps3
  go_wp2
  go_loopw [3, 4] (fun t i wr => ∃ (k m : Nat), k + m = n ∧ i = .int .i64 k ∧ Hid (wr.ownsRow w.heap.size 26 2 t m (revL h l n m)) ∧ Hid (Below w.heap.size w wr)) (fun _ i _ => (intOf i).toNat)
  case atStart => exact ⟨n, 0, by omega, rfl, World.ownsRow_nil w _ _ _, Below.refl _ _⟩
  case round =>
    obtain ⟨k, m, hkm, rfl, hown, hb⟩ := hrel
    by_cases hk : k = 0
    · subst hk
      obtain rfl : m = n := by omega
      obtain ⟨A', c', rfl, hs2⟩ := own_slis hown.out (revL_at h l m m)
      have hb2 := hb.out
      have HA := Lib.hid (fun w hs => sum_any A m c h l (by omega) hd.out w hs)
      have HR := Lib.hid (fun w hs => refsum_any A m c h l (by omega) hd.out w hs)
      have HT := fun w hs => sum_any A' m c' (fun i => h (m - 1 - i)) (fun i => l (m - 1 - i)) (by omega) (fun i hi => hd.out (m - 1 - i) (by omega)) w hs
      rw [(sum_rev h l m).1, (sum_rev h l m).2.1, (sum_rev h l m).2.2] at HT
      replace HT := Lib.hid HT
      have hs1 := Lib.hid (hs.out.below hb2)
      replace hs2 := Lib.hid hs2
      clear hown hkm hb
      generalize sumH h l m = x at *
      generalize sumL h l m = y at *
      generalize sumB h l m = z at *
      have b1 := Lib.hid (Below.refl wr.heap.size wr)
      replace b1 := Lib.hid b1
      go_wp2_with fail
      refine (HA.out _ (SlIs.below hs1.out b1.out)).mono ?_
      rintro e w_1 ⟨rfl, hb_1⟩
      have z_1 := hb_1.size
      try simp at z_1
      have t_ := b1.out
      have hB_1 := bel_eld (w := wr) (X := _) (by repeat (first | exact Below.refl _ _ | assumption | refine below_drewN ?_ _ | refine bel_grow ?_ _ | refine Below.drew ?_ | refine bel_alloc ?_ _ | refine bel_set ?_ (by first | exact Nat.le_refl _ | (simp; done) | (simp; omega) | omega) _ | refine bel_trans ?_ (by assumption))) hb_1
      clear t_
      clear b1 hb_1
      replace hB_1 := Lib.hid hB_1
      go_wp2_with fail
      refine (HT.out _ (SlIs.below hs2.out (by have t := hB_1.out; (repeat (first | exact Below.refl _ _ | assumption | refine below_drewN ?_ _ | refine bel_grow ?_ _ | refine Below.drew ?_ | refine bel_alloc ?_ _ | refine bel_set ?_ (by first | exact Nat.le_refl _ | (simp; done) | (simp; omega) | omega) _ | refine bel_trans ?_ (by assumption)))))).mono ?_
      rintro e w_2 ⟨rfl, hb_2⟩
      have z_2 := hb_2.size
      try simp at z_2
      have t_ := hB_1.out
      have hB_2 := bel_eld (w := wr) (X := _) (by repeat (first | exact Below.refl _ _ | assumption | refine below_drewN ?_ _ | refine bel_grow ?_ _ | refine Below.drew ?_ | refine bel_alloc ?_ _ | refine bel_set ?_ (by first | exact Nat.le_refl _ | (simp; done) | (simp; omega) | omega) _ | refine bel_trans ?_ (by assumption))) hb_2
      clear t_
      have g_s : Blk w_2 (w_1.heap.size) 26 #[.int .u64 x, .int .u64 y] := by
        refine Blk.kept ?_ hb_2
        (repeat (first | with_reducible assumption | (with_reducible refine Blk.new' ?_; first | with_reducible rfl | (simp; done)) | with_reducible refine Blk.alloc ?_ _ | with_reducible refine Blk.grow ?_ _ | with_reducible refine Blk.drew ?_ | with_reducible refine Blk.drewN ?_ _ | (with_reducible refine Blk.far ?_ (by first | (dsimp only; omega) | (simp; omega)) _) | (with_reducible apply Blk.two)))
      clear hB_1 hb_2
      have f_s := g_s
      clear g_s
      have s_0 := (f_s).cell 0
      have s_1 := (f_s).cell 1
      have s_f0 := (f_s).frozen 0
      have s_f1 := (f_s).frozen 1
      have s_l := (f_s).lt
      replace f_s := Lib.hid f_s
      replace hB_2 := Lib.hid hB_2
      go_wp2_with fail
      refine (HR.out _ (SlIs.below hs1.out (by have t := hB_2.out; (repeat (first | exact Below.refl _ _ | assumption | refine below_drewN ?_ _ | refine bel_grow ?_ _ | refine Below.drew ?_ | refine bel_alloc ?_ _ | refine bel_set ?_ (by first | exact Nat.le_refl _ | (simp; done) | (simp; omega) | omega) _ | refine bel_trans ?_ (by assumption)))))).mono ?_
      rintro e w_3 ⟨rfl, hb_3⟩
      have z_3 := hb_3.size
      try simp at z_3
      have t_ := hB_2.out
      have hB_3 := bel_eld (w := wr) (X := _) (by repeat (first | exact Below.refl _ _ | assumption | refine below_drewN ?_ _ | refine bel_grow ?_ _ | refine Below.drew ?_ | refine bel_alloc ?_ _ | refine bel_set ?_ (by first | exact Nat.le_refl _ | (simp; done) | (simp; omega) | omega) _ | refine bel_trans ?_ (by assumption))) hb_3
      clear t_
      have t_s := f_s.out
      have g_s : Blk w_3 (w_1.heap.size) 26 #[.int .u64 x, .int .u64 y] := by
        refine Blk.kept ?_ hb_3
        (repeat (first | with_reducible assumption | (with_reducible refine Blk.new' ?_; first | with_reducible rfl | (simp; done)) | with_reducible refine Blk.alloc ?_ _ | with_reducible refine Blk.grow ?_ _ | with_reducible refine Blk.drew ?_ | with_reducible refine Blk.drewN ?_ _ | (with_reducible refine Blk.far ?_ (by first | (dsimp only; omega) | (simp; omega)) _) | (with_reducible apply Blk.two)))
      have g_t : Blk w_3 (w_2.heap.size) 26 #[.int .u64 x, .int .u64 y] := by
        refine Blk.kept ?_ hb_3
        (repeat (first | with_reducible assumption | (with_reducible refine Blk.new' ?_; first | with_reducible rfl | (simp; done)) | with_reducible refine Blk.alloc ?_ _ | with_reducible refine Blk.grow ?_ _ | with_reducible refine Blk.drew ?_ | with_reducible refine Blk.drewN ?_ _ | (with_reducible refine Blk.far ?_ (by first | (dsimp only; omega) | (simp; omega)) _) | (with_reducible apply Blk.two)))
      clear f_s s_l s_0 s_1 s_f0 s_f1 t_s hB_2 hb_3
      have f_s := g_s
      clear g_s
      have f_t := g_t
      clear g_t
      have s_0 := (f_s).cell 0
      have s_1 := (f_s).cell 1
      have s_f0 := (f_s).frozen 0
      have s_f1 := (f_s).frozen 1
      have s_l := (f_s).lt
      replace f_s := Lib.hid f_s
      have t_0 := (f_t).cell 0
      have t_1 := (f_t).cell 1
      have t_f0 := (f_t).frozen 0
      have t_f1 := (f_t).frozen 1
      have t_l := (f_t).lt
      replace f_t := Lib.hid f_t
      replace hB_3 := Lib.hid hB_3
      go_wp2_with fail
      refine (wfixed_any _).mono ?_
      rintro e w_4 ⟨rfl, hb_4⟩
      have z_4 := hb_4.size
      try simp at z_4
      have t_ := hB_3.out
      have hB_4 := bel_eld (w := wr) (X := _) (by repeat (first | exact Below.refl _ _ | assumption | refine below_drewN ?_ _ | refine bel_grow ?_ _ | refine Below.drew ?_ | refine bel_alloc ?_ _ | refine bel_set ?_ (by first | exact Nat.le_refl _ | (simp; done) | (simp; omega) | omega) _ | refine bel_trans ?_ (by assumption))) hb_4
      clear t_
      have t_s := f_s.out
      have t_t := f_t.out
      have g_s : Blk w_4 (w_1.heap.size) 26 #[.int .u64 x, .int .u64 y] := by
        refine Blk.kept ?_ hb_4
        (repeat (first | with_reducible assumption | (with_reducible refine Blk.new' ?_; first | with_reducible rfl | (simp; done)) | with_reducible refine Blk.alloc ?_ _ | with_reducible refine Blk.grow ?_ _ | with_reducible refine Blk.drew ?_ | with_reducible refine Blk.drewN ?_ _ | (with_reducible refine Blk.far ?_ (by first | (dsimp only; omega) | (simp; omega)) _) | (with_reducible apply Blk.two)))
      have g_t : Blk w_4 (w_2.heap.size) 26 #[.int .u64 x, .int .u64 y] := by
        refine Blk.kept ?_ hb_4
        (repeat (first | with_reducible assumption | (with_reducible refine Blk.new' ?_; first | with_reducible rfl | (simp; done)) | with_reducible refine Blk.alloc ?_ _ | with_reducible refine Blk.grow ?_ _ | with_reducible refine Blk.drew ?_ | with_reducible refine Blk.drewN ?_ _ | (with_reducible refine Blk.far ?_ (by first | (dsimp only; omega) | (simp; omega)) _) | (with_reducible apply Blk.two)))
      have g_u : Blk w_4 (w_3.heap.size) 26 #[.int .u64 x, .int .u64 y] := by
        refine Blk.kept ?_ hb_4
        (repeat (first | with_reducible assumption | (with_reducible refine Blk.new' ?_; first | with_reducible rfl | (simp; done)) | with_reducible refine Blk.alloc ?_ _ | with_reducible refine Blk.grow ?_ _ | with_reducible refine Blk.drew ?_ | with_reducible refine Blk.drewN ?_ _ | (with_reducible refine Blk.far ?_ (by first | (dsimp only; omega) | (simp; omega)) _) | (with_reducible apply Blk.two)))
      clear f_s s_l s_0 s_1 s_f0 s_f1 f_t t_l t_0 t_1 t_f0 t_f1 t_s t_t hB_3 hb_4
      have f_s := g_s
      clear g_s
      have f_t := g_t
      clear g_t
      have f_u := g_u
      clear g_u
      have s_0 := (f_s).cell 0
      have s_1 := (f_s).cell 1
      have s_f0 := (f_s).frozen 0
      have s_f1 := (f_s).frozen 1
      have s_l := (f_s).lt
      replace f_s := Lib.hid f_s
      have t_0 := (f_t).cell 0
      have t_1 := (f_t).cell 1
      have t_f0 := (f_t).frozen 0
      have t_f1 := (f_t).frozen 1
      have t_l := (f_t).lt
      replace f_t := Lib.hid f_t
      have u_0 := (f_u).cell 0
      have u_1 := (f_u).cell 1
      have u_f0 := (f_u).frozen 0
      have u_f1 := (f_u).frozen 1
      have u_l := (f_u).lt
      replace f_u := Lib.hid f_u
      replace hB_4 := Lib.hid hB_4
      go_wp2_with fail
      go_ret
      exact ⟨by simp, by have t := hB_4.out; exact bel_eld hb2 t⟩
    · obtain ⟨k, rfl⟩ : ∃ k', k = k' + 1 := ⟨k - 1, by omega⟩
      obtain ⟨b, o, rfl, hbl, hc⟩ := hs.out (by omega)
      have c0 := keepc hb.out (hc (k * 2) (by omega))
      have c1 := keepc hb.out (hc (k * 2 + 1) (by omega))
      rw [pV_0] at c0
      rw [pV_1, ← Nat.add_assoc] at c1
      have bl : b < wr.heap.size := Nat.lt_of_lt_of_le hbl hb.out.size
      clear hc
      go_wp2_with (at_builtin; refine wpList_append_own _ rfl (.tmp 21) (.tmp 27) _ rfl w.heap.size 26 i0 _ 2 16 Try.underlying22 hi0.out hz0.out hz1.out hz2.out rfl (by omega) u3 m (revL h l n m) rfl (hown.out.alloc _) ⟨wr.heap.size, 0, none⟩ 1 1 [.int .u64 (h k), .int .u64 (l k)] rfl rfl ?c1 ?c2 ?c3 ?c4 ?c5 ?_; rotate_right; intro v' w1 hown1 hg1 _)
      case c1 => exact news_blk (Blk.new _ _ _)
      case c2 => intro u hu; simp at hu; rcases hu with rfl | rfl <;> rfl
      case c3 => simp only [maxLen]; omega
      case c4 => omega
      case c5 => have := hb.out.size; simp; omega
      refine ⟨⟨k, m + 1, by omega, rfl, ?_, ?_⟩, ?_⟩
      · simp only [revL]
        rw [show n - 1 - m = k from by omega]
        exact hown1
      · refine bel_grown (bel_alloc hb.out _) hg1 (fun j hj => ?_)
        exact (hown.out.lt j hj).1
      · simp [intOf]
theorem wideSums_any (A : Option Addr) (n c : Nat) (h l : Nat → Int) (hn : n ≤ maxLen) (hd : ∀ i, i < n → Wd (h i) ∧ Wd (l i)) (w : World) (hs : SlIs w A (n * 2) (pV h l)) :
    Calls Try.prog 3 #[.slice A n c] w fun r w' => r = .returned (.bool true) ∧ Below w.heap.size w w' := by
  unfold maxLen at hn
  by_cases h2 : n ≤ 200
  · exact wideSums_near A n c h l h2 hd w hs
  · exact wideSums_far A n c (by omega) hn w
end Go.Proofs.Ytlmcneonbdgcnaa
