/-
  key.Next where there is a next row; the document's Next.
-/
import Derived.Test.YtkgjpebekcgagaaKe
namespace Go.Proofs.Ytkgjpebekcgagaa
set_option linter.unusedVariables false
set_option linter.unusedSimpArgs false
open Go.RowKit

theorem lp_step {d : Nat → Int} {m : Nat} (h : d m = 255) : lp d (m + 1) = lp d m := by rw [lp, if_pos h]
theorem lp_stop {d : Nat → Int} {m : Nat} (h : d m ≠ 255) : lp d (m + 1) = m + 1 := by rw [lp, if_neg h]
theorem nxt_lo {d : Nat → Int} (hd : ∀ i, 0 ≤ d i ∧ d i < 256) {n : Nat} (h : 0 < lp d n) (j : Nat) : 0 ≤ nxt d (lp d n) j ∧ nxt d (lp d n) j < 256 := by
  have h1 := lp_pos d n h
  have h2 := hd j
  unfold nxt
  split
  · exact h2
  · split
    · have : j = lp d n - 1 := by omega
      rw [this] at h2 ⊢
      omega
    · omega

set_option maxHeartbeats 2000000 in
theorem next_yes (A : Option Addr) (n c : Nat) (d : Nat → Int) (hn : n ≤ 1000000) (hd : ∀ i, 0 ≤ d i ∧ d i < 256) (hp : 0 < lp d n) (w : World) (hs : SlIs w A n (yV d)) : Calls Try.prog 8 #[.slice A n c] w fun r w' =>
      ∃ v, r = .returned (.tuple #[v, .bool true]) ∧ OwnB w' w.heap.size v n (nxt d (lp d n)) ∧ Below w.heap.size w w' := by
  have h0 : 0 < n := by have := lp_le d n; omega
  have H := Lib.hid (bclone_any A n c d hn w hs)
  replace hp := Lib.hid hp
  replace hd := Lib.hid hd
  clear hs
  go_enter Try.func8, Try.ntmps8
  go_wp2_with fail
  refine H.out.mono ?_
  rintro r w1 ⟨v, rfl, ho, hb⟩
  obtain ⟨g, cap, f, rfl, hg, h1, h2, hr, hf⟩ := own_row ho h0
  replace hr := Lib.hid hr
  replace hf := Lib.hid hf
  have hcap := Lib.hid h2
  clear ho H
  replace hb := Lib.hid hb
  unfold maxLen at h2
  go_wp2_with fail
  go_loopw [5] (fun i wr => ∃ (k : Nat), k ≤ n ∧ i = .int .i64 ((k : Int) - 1) ∧ Hid (lp d n = lp d k) ∧ Hid (Below w.heap.size w wr) ∧ Hid (∃ f, wr.rowIs g 5 cap f ∧ ∀ i, i < n → f i = yV (nxl d k) i)) (fun i _ => (intOf i + 1).toNat)
  case atStart => exact ⟨n, Nat.le_refl _, rfl, rfl, hb.out, ⟨f, hr.out, fun i hi => by rw [hf.out i hi]; unfold yV nxl; rw [if_pos hi]⟩⟩
  case round =>
    clear hb hr hf
    obtain ⟨k, hk, rfl, hq, hb, hrow⟩ := hrel
    obtain ⟨f, hr, hf⟩ := hrow.out
    replace hr := Lib.hid hr
    replace hf := Lib.hid hf
    clear hrow
    have hk0 : k ≠ 0 := by
      intro h
      have h3 := hq.out
      rw [h] at h3
      have h4 := hp.out
      rw [h3] at h4
      simp [lp] at h4
    obtain ⟨m, rfl⟩ : ∃ m, k = m + 1 := ⟨k - 1, by omega⟩
    have c0 := hr.out.cell (i := m) (by omega)
    have c1 := hr.out.frozen m
    have c2 := hr.out.lt
    have e1 : ((m + 1 : Nat) : Int) - 1 = m := by omega
    rw [e1] at *
    by_cases hx : d m = 255
    · rw [hf.out m (by omega), show yV (nxl d (m + 1)) m = .int .u8 255 by unfold yV nxl; rw [if_pos (by omega), hx]] at c0
      replace hx := Lib.hid hx
      go_wp2
      go_roundw
      case rel =>
        refine ⟨m, by omega, by go_num, by show _ = _; rw [hq.out, lp_step hx.out], hb.out.setCell (p := ⟨g, m, none⟩) hg _, ⟨_, hr.out.set m _, fun i hi => ?_⟩⟩
        by_cases e : i = m
        · subst e; simp [yV, nxl]
        · rw [if_neg e, hf.out i hi]; unfold yV nxl
          by_cases e2 : i < m
          · rw [if_pos (by omega), if_pos e2]
          · rw [if_neg (by omega), if_neg e2]
      case measure => simp [intOf]
    · rw [hf.out m (by omega), show yV (nxl d (m + 1)) m = .int .u8 (d m) by unfold yV nxl; rw [if_pos (by omega)]] at c0
      have hlo := hd.out m
      have hm : (d m + 1) % 256 = d m + 1 := by omega
      have hne : ((d m + 1) != 0) = true := by rw [bne_iff_ne]; omega
      have hlp := Lib.hid (hq.out.trans (lp_stop hx))
      replace hx := Lib.hid hx
      go_wp2
      go_ret2
      refine ⟨_, rfl, ?_, hb.out.setCell (p := ⟨g, m, none⟩) hg _⟩
      refine row_own (hr.out.set m _) (fun i hi => ?_) hg h1 hcap.out
      rw [hlp.out]
      by_cases e : i = m
      · subst e; rw [if_pos rfl]; unfold yV nxt; rw [if_neg (by omega), if_pos rfl]
      · rw [if_neg e, hf.out i hi]; unfold yV nxl nxt
        by_cases e2 : i < m
        · rw [if_pos (by omega), if_pos (by omega)]
        · rw [if_neg (by omega), if_neg (by omega), if_neg (by omega)]

theorem conv8 {w : World} {A : Option Addr} {n : Nat} {d : Nat → Int} (h : SlIs w A n (yV d)) (c : Nat) : (convert 22 9 (.slice A n c)).run Try.prog w = .ok (.string (strF d n)) w := conv_str Try.underlying22 Try.underlying5 Try.underlying9 h c
theorem conv_one (x : Int) (W : World) : (convert 22 9 (.slice (some ⟨W.heap.size, 0, none⟩) 1 1)).run Try.prog (W.alloc (.cells #[.int .u8 x] 5)) = .ok (.string (strF (fun _ => x) 1)) (W.alloc (.cells #[.int .u8 x] 5)) :=
  conv8 (SlIs.row (rowIs_of (n := 1) (f := yV (fun _ => x)) rfl rfl (fun i hi => by
    obtain rfl : i = 0 := by omega
    rfl)) (Nat.le_refl 1)) 1
theorem conv_one_d (x : Int) (W : World) : (convert 22 9 (.slice (some ⟨W.heap.size, 0, none⟩) 1 1)).run Try.prog (W.alloc (.cells #[.int .u8 x] 5)).drew = .ok (.string (strF (fun _ => x) 1)) (W.alloc (.cells #[.int .u8 x] 5)).drew :=
  conv8 (slis_drew (SlIs.row (rowIs_of (n := 1) (f := yV (fun _ => x)) rfl rfl (fun i hi => by
    obtain rfl : i = 0 := by omega
    rfl)) (Nat.le_refl 1))) 1
theorem strF_z : ({ data := #[0] } : ByteArray) = strF (fun _ => 0) 1 := by decide
theorem nxt_head (d : Nat → Int) (m n : Nat) (h : m < n) : (strF d n).extract 0 m ++ strF (fun _ => d m + 1) 1 = strF (nxt d (m + 1)) (m + 1) := by
  rw [strF_ext (by omega) (by omega), strF_cat]
  refine strF_congr (fun i hi => ?_)
  unfold cat nxt shf
  rw [Nat.sub_zero]
  by_cases e : i < m
  · rw [if_pos e, if_pos (by omega), Nat.zero_add]
  · rw [if_neg e, if_neg (by omega), if_pos (by omega)]
    show d m + 1 = d i + 1
    rw [show i = m by omega]
theorem nxt_more (d : Nat → Int) (p k : Nat) (h : p ≤ k) : strF (nxt d p) k ++ { data := #[0] } = strF (nxt d p) (k + 1) := by
  rw [strF_z, strF_cat]
  refine strF_congr (fun i hi => ?_)
  unfold cat
  by_cases e : i < k
  · rw [if_pos e]
  · rw [if_neg e]; unfold nxt; rw [if_neg (by omega), if_neg (by omega)]

set_option maxHeartbeats 2000000 in
theorem rnext_any (n : Nat) (d : Nat → Int) (hn : n ≤ 1000000) (hd : ∀ i, 0 ≤ d i ∧ d i < 256) (w : World) : Calls Try.prog 9 #[.string (strF d n)] w fun r w' =>
      r = .returned (.tuple #[.string (if lp d n = 0 then { data := #[] } else strF (nxt d (lp d n)) n), .bool (decide (0 < lp d n))]) ∧ Below w.heap.size w w' := by
  have es : (strF d n).size = n := strF_size d n
  obtain ⟨P, hP⟩ : ∃ P, lp d n = P := ⟨_, rfl⟩
  rw [hP]
  replace hP := Lib.hid hP
  replace hd := Lib.hid hd
  go_enter Try.func9, Try.ntmps9
  go_wp2
  go_loopw [4] (fun i wr => ∃ (k : Nat), k ≤ n ∧ i = .int .i64 k ∧ Hid (P = lp d k) ∧ wr = w) (fun i _ => (intOf i).toNat)
  case atStart => exact ⟨n, Nat.le_refl _, rfl, hP.out.symm, rfl⟩
  case round =>
    obtain ⟨k, hk, rfl, hq, rfl⟩ := hrel
    by_cases hk0 : k = 0
    · subst hk0
      have hlp := Lib.hid (show P = 0 from hq.out)
      go_wp2
      refine bodyPost_ret (v := .tuple #[.string { data := #[] }, .bool false]) (by simp [results, Try.results9, go_sem]) rfl ⟨?_, Below.refl _ _⟩
      first | rfl | (rw [hlp.out]; rfl)
    · obtain ⟨m, rfl⟩ : ∃ m, k = m + 1 := ⟨k - 1, by omega⟩
      have e1 : ((m + 1 : Nat) : Int) - 1 = m := by omega
      have hsz : m < (strF d n).size := by rw [es]; omega
      have hlo := hd.out m
      have hat := strF_at hsz hlo
      by_cases hx : d m = 255
      · have hx2 : (d m == 255) = true := by simpa using hx
        replace hx := Lib.hid hx
        go_wp2
        go_roundw
        case rel => exact ⟨m, by omega, by go_num, by show _ = _; rw [hq.out, lp_step hx.out], trivial⟩
        case measure => simp [intOf]
      · have hx2 : (d m == 255) = false := by simpa using hx
        have hlp := Lib.hid (hq.out.trans (lp_stop hx))
        have hw : IntKind.u8.wrap (d m + 1) = d m + 1 := by simp [IntKind.wrap, IntKind.bits, IntKind.signed]; omega
        have hm : (d m + 1) % 256 = d m + 1 := by omega
        have cv := conv_one (d m + 1)
        have cv2 := conv_one_d (d m + 1)
        have hh := nxt_head d m n (by omega)
        have hs1 := strF_size (fun _ => d m + 1) 1
        have hs2 : ((strF d n).extract 0 m).size = m := by rw [strF_ext (by omega) (by omega), strF_size]; rfl
        replace hx := Lib.hid hx
        go_wp2
        go_region
        go_wp2
        have hP2 := Lib.hid (hlp.out)
        have hb0 : Below wr.heap.size wr (wr.alloc (.cells #[.int .u8 (d m + 1)] 5)).drew := (bel_alloc (Below.refl _ _) _).drew
        replace hb0 := Lib.hid hb0
        have hp1 : ¬ P = 0 := by have := hlp.out; omega
        clear cv cv2 hh hs1 hs2 hx2 hw hm hlo hat hsz
        generalize (wr.alloc (.cells #[.int .u8 (d m + 1)] 5)).drew = W1 at *
        go_loopw [5] (fun o w2 => ∃ (k : Nat), m + 1 ≤ k ∧ k ≤ n ∧ o = .string (strF (nxt d (m + 1)) k) ∧ w2 = W1) (fun o _ => n - (match o with | .string s => s.size | _ => 0))
        case atStart => exact ⟨m + 1, Nat.le_refl _, by omega, rfl, rfl⟩
        case round =>
          obtain ⟨k, h1, h2, rfl, rfl⟩ := hrel
          have ek := strF_size (nxt d (m + 1)) k
          have hz := nxt_more d (m + 1) k h1
          have hz1 : ({ data := #[0] } : ByteArray).size = 1 := rfl
          by_cases hlt : k < n
          · go_wp2
            go_roundw
            case rel => exact ⟨k + 1, by omega, by omega, rfl, trivial⟩
            case measure =>
              have ek2 := strF_size (nxt d (m + 1)) (k + 1)
              simp only [ek, ek2]
              omega
          · obtain rfl : k = n := by omega
            go_wp2
            refine bodyPost_ret (v := .tuple #[.string (strF (nxt d (m + 1)) k), .bool true]) (by simp [results, Try.results9, go_sem]) rfl ⟨?_, hb0.out⟩
            have e2 := hlp.out
            subst e2
            simp
end Go.Proofs.Ytkgjpebekcgagaa
