/-
  Wide numbers laid behind bytes: record.wides, walked.
-/
import Derived.Test.YtflaeljjalpnkaaRecA
import Derived.Test.YtflaeljjalpnkaaWideL
import Derived.Test.YtflaeljjalpnkaaWideV
namespace Go.Proofs.Ytflaeljjalpnkaa
set_option linter.unusedVariables false
set_option linter.unusedSimpArgs false
open Go.RowKit

theorem grownBy_below {w w' : World} (h : Below w.heap.size w w') (row : Option Nat) : w.grownBy w' row := ⟨h.os, h.tape, h.output, h.size, fun i hi _ => h.block i hi⟩
theorem own_below {w w' : World} {base : Nat} {e : TypeId} {size : Nat} {v : Value} {n : Nat} {xs : List Value} (h : w.ownsRow base e size v n xs) (hb : Below w.heap.size w w') : w'.ownsRow base e size v n xs :=
  h.kept (grownBy_below hb none) (by cases v.ownBlock <;> simp)
theorem news_row {w : World} {g : Nat} {t : TypeId} {d : Nat → Int} {n m : Nat} (h : w.rowIs g t n (yV d)) (hm : m ≤ n) : ∀ j u, (yL d m)[j]? = some u → w.cell? ((⟨g, 0, none⟩ : Addr).add j) = some u := by
  intro j u hu
  have hj : j < m := by
    rcases Nat.lt_or_ge j m with h1 | h1
    · exact h1
    · rw [List.getElem?_eq_none (by rw [yL_len]; exact h1)] at hu; cases hu
  have e : (⟨g, 0, none⟩ : Addr).add j = ⟨g, j, none⟩ := by unfold Addr.add; split <;> simp_all
  rw [e, h.cell (by omega), yL_at d m j u hu]
theorem yL_one' (d : Nat → Int) : ∀ m, ∀ u ∈ yL d m, u.oneCell' = true
  | 0, u, h => by simp [yL] at h
  | m + 1, u, h => by
    simp only [yL, List.mem_append, List.mem_singleton] at h
    rcases h with h | h
    · exact yL_one' d m u h
    · rw [h]; rfl
/-- the cells of pairs of words -/
def pV (h l : Nat → Int) (j : Nat) : Value := .int .u64 (if j % 2 = 0 then h (j / 2) else l (j / 2))
theorem pV_0 (h l : Nat → Int) (k : Nat) : pV h l (k * 2) = .int .u64 (h k) := by unfold pV; rw [if_pos (by omega), show k * 2 / 2 = k from by omega]
theorem pV_1 (h l : Nat → Int) (k : Nat) : pV h l (k * 2 + 1) = .int .u64 (l k) := by unfold pV; rw [if_neg (by omega), show (k * 2 + 1) / 2 = k from by omega]

/-- n bytes d, and k wide numbers behind -/
def wcat (d : Nat → Int) (n : Nat) (h l : Nat → Int) : Nat → Nat → Int
  | 0 => d
  | k + 1 => cat (wcat d n h l k) (n + k * 16) (dgt (h k) (l k))

set_option maxRecDepth 8000 in
set_option maxHeartbeats 2000000 in
theorem wides_any (v : Value) (n0 : Nat) (d : Nat → Int) (A : Option Addr) (k c base : Nat) (h l : Nat → Int) (hu : ∀ i, i < k → Wd (h i) ∧ Wd (l i)) (hk : k ≤ 1000) (hn : n0 ≤ 1000000) (w : World) (hbase : base ≤ w.heap.size) (ho : OwnB w base v n0 d)
    (w0 : World) (hw0 : Below w0.heap.size w0 w) (hb0 : w0.heap.size ≤ base) (hs : SlIs w0 A (k * 2) (pV h l)) :
    Calls Try.prog 51 #[v, .slice A k c] w fun r w' => ∃ v', r = .returned v' ∧ OwnB w' base v' (n0 + k * 16) (wcat d n0 h l k) ∧ Below base w w' := by
  obtain ⟨i0, hi0, hz0, hz1, hz2⟩ := info_parts info_u8
  replace hi0 := Lib.hid hi0
  replace hz0 := Lib.hid hz0
  replace hz1 := Lib.hid hz1
  replace hz2 := Lib.hid hz2
  unfold OwnB at *
  replace ho := Lib.hid ho
  replace hs := Lib.hid hs
  replace hw0 := Lib.hid hw0
  replace hu := Lib.hid hu
  go_enter Try.func51, Try.ntmps51
  go_wp2
  go_loopw [0, 9] (fun u i wr => ∃ (m : Nat), m ≤ k ∧ i = .int .i64 m ∧ Hid (wr.ownsRow base 5 1 u (n0 + m * 16) (yL (wcat d n0 h l m) (n0 + m * 16))) ∧ Hid (Below base w wr)) (fun _ i _ => k - (intOf i).toNat)
  case atStart => exact ⟨0, by omega, rfl, ho.out, Below.refl _ _⟩
  case round =>
    clear ho
    obtain ⟨m, hm, rfl, hown, hb⟩ := hrel
    by_cases hlt : m < k
    · obtain ⟨b, o, rfl, hbl, hc⟩ := hs.out (by omega)
      have hB : Below w0.heap.size w0 wr := hw0.out.trans (hb.out.mono hb0)
      have c0 := keepc hB (hc (m * 2) (by omega))
      have c1 := keepc hB (hc (m * 2 + 1) (by omega))
      rw [pV_0] at c0
      rw [pV_1, ← Nat.add_assoc] at c1
      have hsz := hb.out.size
      have bl : b < wr.heap.size := by omega
      have HX := Lib.hid (fun w => bytes_any (h m) (l m) (hu.out m hlt).1 (hu.out m hlt).2 w)
      have eL : yL (wcat d n0 h l (m + 1)) (n0 + (m + 1) * 16) = yL (wcat d n0 h l m) (n0 + m * 16) ++ yL (dgt (h m) (l m)) 16 := by
        rw [show n0 + (m + 1) * 16 = n0 + m * 16 + 16 by omega]
        exact yL_cat _ _ _ _
      replace eL := Lib.hid eL
      clear hc hB
      go_wp2_with fail
      refine (HX.out _).mono ?_
      rintro e w1 ⟨g, rfl, hg, hrow, hb1⟩
      have hown1 := own_below (hown.out.alloc _) hb1
      have hn1 := news_row hrow (Nat.le_refl 16)
      have hb2 : Below base w w1 := (Below.alloc hb.out (by omega) _).trans (hb1.mono (by simp; omega))
      have hsz1 := hb2.size
      replace hown1 := Lib.hid hown1
      replace hn1 := Lib.hid hn1
      replace hb2 := Lib.hid hb2
      clear hrow hb1 hg c0 c1
      go_wp2_with (at_builtin; refine wpList_append_own _ rfl (.tmp 13) (.tmp 15) _ rfl base 5 i0 _ 1 1 Try.underlying32 hi0.out hz0.out hz1.out hz2.out rfl (by omega) u0 (n0 + m * 16) (yL (wcat d n0 h l m) (n0 + m * 16)) rfl hown1.out ⟨g, 0, none⟩ 16 16 (yL (dgt (h m) (l m)) 16) rfl ?c0 ?c1 ?c2 ?c3 ?c4 ?c5 ?_; rotate_right; intro v' w2 hown2 hg2 _)
      case c0 => rw [yL_len]
      case c1 => exact hn1.out
      case c2 => exact yL_one' _ _
      case c3 => simp only [maxLen]; omega
      case c4 => omega
      case c5 => omega
      go_roundw
      case rel =>
        refine ⟨m + 1, by omega, by go_num, ?_, ?_⟩
        · rw [eL.out, show n0 + (m + 1) * 16 = n0 + m * 16 + 16 by omega]
          exact hown2
        · exact Below.grown hb2.out hg2 (by omega) (fun j hj => (hown1.out.lt j hj).1)
      case measure => simp [intOf]; omega
    · obtain rfl : m = k := by omega
      go_wp2
      go_ret
      exact ⟨_, rfl, hown.out, hb.out⟩
end Go.Proofs.Ytflaeljjalpnkaa
