/-
  Joined: WideR RefA Own.
-/
import Derived.Test.YtncampbmnbhikaaJ8
import Derived.Test.YtncampbmnbhikaaJ6
import Derived.Test.YtncampbmnbhikaaJ4
import Derived.Test.YtncampbmnbhikaaJ9
-- WideR
namespace Go.Proofs.Ytncampbmnbhikaa
set_option linter.unusedVariables false
set_option linter.unusedSimpArgs false
open Go.RowKit

theorem num_dgt {h l : Int} (hh : Wd h) (hl : Wd l) : num (dgt h l) 0 8 = h ∧ num (dgt h l) 8 8 = l := by
  have hV := num_eq (V h l) (V_lo hh hl)
  rw [V_div hl, V_mod hl] at hV
  refine ⟨?_, ?_⟩
  · exact (num_congr (fun j hj => by rw [Nat.zero_add]; exact dgt_dg hl (by omega))).trans hV.1
  · exact (num_congr (fun j hj => dgt_dg hl (by omega))).trans hV.2
theorem dgt_less {a b c d : Int} (ha : Wd a) (hb : Wd b) (hc : Wd c) (hd : Wd d) : rowLess (dgt a b) (dgt c d) 16 = decide (cmpV a b c d < 0) := by
  rw [Bool.eq_iff_iff, rowLess_iff, decide_eq_true_eq, cmp_lt hb hd]
  have hA := V_lo ha hb
  have hB := V_lo hc hd
  constructor
  · rintro ⟨k, hk, h1, h2⟩
    rw [dgt_dg hb hk, dgt_dg hd hk] at h2
    exact dg_less hA hB hk (fun j hj => by rw [← dgt_dg hb (by omega), ← dgt_dg hd (by omega)]; exact h1 j hj) h2
  · intro hlt
    apply Classical.byContradiction
    intro hno
    have hall : ∀ k, k ≤ 16 → ∀ j, j < k → dg (V a b) j = dg (V c d) j := by
      intro k
      induction k with
      | zero => intro _ j hj; omega
      | succ k ih =>
        intro hk j hj
        by_cases e : j = k
        · subst e
          rcases Int.lt_trichotomy (dg (V a b) j) (dg (V c d) j) with h | h | h
          · exact absurd ⟨j, by omega, fun i hi => by rw [dgt_dg hb (by omega), dgt_dg hd (by omega)]; exact ih (by omega) i hi, by rw [dgt_dg hb (by omega), dgt_dg hd (by omega)]; exact h⟩ hno
          · exact h
          · have := dg_less hB hA (k := j) (by omega) (fun i hi => (ih (by omega) i hi).symm) h
            omega
        · exact ih (by omega) j (by omega)
    have := dg_all hA hB (hall 16 (by omega))
    omega
theorem dgt_eq {a b c d : Int} (ha : Wd a) (hb : Wd b) (hc : Wd c) (hd : Wd d) : decide (16 = 16 ∧ ∀ i, i < 16 → dgt a b i = dgt c d i) = (a == c && b == d) := by
  rw [Bool.eq_iff_iff, decide_eq_true_eq, Bool.and_eq_true, beq_iff_eq, beq_iff_eq]
  constructor
  · rintro ⟨_, h⟩
    have h1 := num_dgt ha hb
    have h2 := num_dgt hc hd
    exact ⟨h1.1.symm.trans ((num_congr (fun j hj => h _ (by omega))).trans h2.1), h1.2.symm.trans ((num_congr (fun j hj => h _ (by omega))).trans h2.2)⟩
  · rintro ⟨rfl, rfl⟩; exact ⟨rfl, fun _ _ => rfl⟩
theorem dgt_less_at {a b c d : Int} (ha : Wd a) (hb : Wd b) (hc : Wd c) (hd : Wd d) : Op.bytesLess (strF (dgt a b) 16).toList (strF (dgt c d) 16).toList = decide (cmpV a b c d < 0) := by
  rw [strF_less (fun i _ => dgt_lo a b i) (fun i _ => dgt_lo c d i), dgt_less ha hb hc hd]
theorem dgt_eq_at {a b c d : Int} (ha : Wd a) (hb : Wd b) (hc : Wd c) (hd : Wd d) : ((strF (dgt a b) 16).toList == (strF (dgt c d) 16).toList) = (a == c && b == d) := by
  rw [strF_eq (fun i _ => dgt_lo a b i) (fun i _ => dgt_lo c d i), ← dgt_eq ha hb hc hd]

/-- what n bytes are read as -/
def rdH (d : Nat → Int) (n : Nat) : Int := if n = 16 then num d 0 8 else 0
def rdL (d : Nat → Int) (n : Nat) : Int := if n = 16 then num d 8 8 else 0
theorem read_any (A : Option Addr) (n c : Nat) (hn : n ≤ maxLen) (d : Nat → Int) (hd : ∀ i, 0 ≤ d i ∧ d i < 256) (w : World) (hs : SlIs w A n (yV d)) : Calls Try.prog 67 #[.slice A n c] w fun r w' =>
      r = .returned (.tuple #[.agg #[.int .u64 (rdH d n), .int .u64 (rdL d n)], .bool (decide (n = 16))]) ∧ Below w.heap.size w w' := by
  unfold rdH rdL
  by_cases h : n = 16
  · subst h; rw [if_pos rfl, if_pos rfl]; exact read_yes A c d hd w hs
  · rw [if_neg h, if_neg h, decide_eq_false h]; exact read_no A n c hn h w
theorem reads_any (n : Nat) (hn : n ≤ maxLen) (d : Nat → Int) (hd : ∀ i, 0 ≤ d i ∧ d i < 256) (w : World) : Calls Try.prog 51 #[.string (strF d n)] w fun r w' =>
      r = .returned (.tuple #[.agg #[.int .u64 (rdH d n), .int .u64 (rdL d n)], .bool (decide (n = 16))]) ∧ Below w.heap.size w w' := by
  unfold rdH rdL
  by_cases h : n = 16
  · subst h
    rw [if_pos rfl, if_pos rfl]
    have := reads_yes (strF d 16) (strF_size d 16) w
    rw [num_congr (d := sB (strF d 16)) (e := d) (s := 0) (k := 8) (fun j hj => sB_strF (by omega) (hd _)), num_congr (d := sB (strF d 16)) (e := d) (s := 8) (k := 8) (fun j hj => sB_strF (by omega) (hd _))] at this
    exact this
  · rw [if_neg h, if_neg h, decide_eq_false h]; exact reads_no _ (by rw [strF_size]; exact hn) (by rw [strF_size]; exact h) w

end Go.Proofs.Ytncampbmnbhikaa
-- RefA
namespace Go.Proofs.Ytncampbmnbhikaa
set_option linter.unusedVariables false
set_option linter.unusedSimpArgs false
open Go.RowKit

theorem strF_ext {d : Nat → Int} {n a b : Nat} (h1 : a ≤ b) (h2 : b ≤ n) : (strF d n).extract a b = strF (shf d a) (b - a) := by
  have h : ((strF d n).extract a b).data.toList = (strF (shf d a) (b - a)).data.toList := by
    have hl : ((strF d n).extract a b).data.toList = (strF d n).data.toList.extract a b := by simp
    rw [hl, strF_list, strF_list]
    apply List.ext_getElem?
    intro i
    rw [List.extract_eq_take_drop]
    rw [List.getElem?_take]
    split
    · rename_i hi
      rw [List.getElem?_drop, List.getElem?_map, List.getElem?_map, List.getElem?_range (by omega), List.getElem?_range hi]
      rfl
    · rename_i hi
      rw [List.getElem?_eq_none (by simp; omega)]
  cases hx : (strF d n).extract a b with
  | mk x => cases hy : strF (shf d a) (b - a) with
    | mk y => rw [hx, hy] at h; congr 1; exact Array.toList_inj.1 h
theorem num_small {d : Nat → Int} (hd : ∀ i, 0 ≤ d i ∧ d i < 256) {k : Nat} (hk : k ≤ 3) : num d 0 k < 16777216 := by
  have h := num_hi d 0 hd k
  have : (256 : Int) ^ k ≤ 16777216 := by
    rcases (by omega : k = 0 ∨ k = 1 ∨ k = 2 ∨ k = 3) with rfl | rfl | rfl | rfl <;> decide
  omega
theorem strF_at {d : Nat → Int} {n k : Nat} (hk : k < (strF d n).size) (hd : 0 ≤ d k ∧ d k < 256) : (((strF d n)[k]'hk).toNat : Int) = d k := by
  have h : k < n := by rwa [strF_size] at hk
  have e := sB_strF (d := d) h hd
  rw [← e]
  unfold sB
  have hk' : k < (strF d n).data.toList.length := by simpa using hk
  simp [List.getD, List.getElem?_eq_getElem hk']
  rfl
theorem strF_tail {d : Nat → Int} {n a : Nat} (h1 : a ≤ n) : (strF d n).extract a n = strF (shf d a) (n - a) := strF_ext h1 (Nat.le_refl _)

set_option maxRecDepth 8000 in
theorem rstamp_any (n : Int) (hn : Wd n) (w : World) : Calls Try.prog 57 #[.int .u64 n] w fun r w' =>
      r = .returned (.string (strF (nb 8 n) 8)) ∧ Below w.heap.size w w' := by
  have HB := Lib.hid (fun w => refbytes_any 0 n Wd0 hn w)
  clear hn
  have e1 : (strF (dgt 0 n) 16).size = 16 := strF_size _ _
  have e2 : (strF (dgt 0 n) 16).extract 8 16 = strF (nb 8 n) 8 := by
    rw [strF_ext (by omega) (by omega)]
    exact strF_congr (fun i hi => stamp_nb n i (by omega))
  go_enter Try.func57, Try.ntmps57
  go_wp2_with fail
  refine (HB.out _).mono ?_
  rintro e w1 ⟨rfl, hb1⟩
  replace hb1 := Lib.hid hb1
  go_wp2_with fail
  go_ret
  exact ⟨rfl, hb1.out⟩

set_option maxHeartbeats 1000000 in
theorem rnumber_any (d : Nat → Int) (hd : ∀ i, 0 ≤ d i ∧ d i < 256) (n : Nat) (hn : n ≤ 4) (w : World) : Calls Try.prog 43 #[.string (strF d n)] w fun r w' =>
      r = .returned (.int .u32 (num d 0 n)) ∧ Below w.heap.size w w' := by
  have es : (strF d n).size = n := strF_size d n
  replace hd := Lib.hid hd
  go_enter Try.func43, Try.ntmps43
  go_wp2
  go_loop [3, 4] (fun a i => ∃ k : Nat, k ≤ n ∧ i = .int .i64 k ∧ a = .int .u32 (num d 0 k)) (fun _ i => n - (intOf i).toNat)
  case atStart => exact ⟨0, by omega, rfl, rfl⟩
  case round =>
    obtain ⟨k, hk, rfl, rfl⟩ := hrel
    by_cases hlt : k < n
    · have hsz : k < (strF d n).size := by rw [es]; exact hlt
      have b1 := num_lo d 0 hd.out k
      have b2 : num d 0 k < 16777216 := num_small hd.out (by omega)
      have b3 := hd.out k
      go_wp2
      go_round
      case rel =>
        refine ⟨k + 1, by omega, by go_num, ?_⟩
        rw [strF_at hsz b3]
        simp only [num]
        rw [Nat.zero_add]
        congr 1
        omega
      case measure => simp [intOf]; omega
    · obtain rfl : k = n := by omega
      go_wp2
      go_ret
      exact ⟨rfl, Below.refl _ _⟩

set_option maxHeartbeats 1000000 in
theorem eight_any (d : Nat → Int) (hd : ∀ i, 0 ≤ d i ∧ d i < 256) (n a : Nat) (aI : Int) (haI : aI = a) (hn : n ≤ 1000000) (ha : a + 8 ≤ n) (w : World) : Calls Try.prog 63 #[.string (strF d n), .int .i64 aI] w fun r w' =>
      r = .returned (.int .u64 (num d a 8)) ∧ Below w.heap.size w w' := by
  subst haI
  have es : (strF d n).size = n := strF_size d n
  replace hd := Lib.hid hd
  go_enter Try.func63, Try.ntmps63
  go_wp2
  go_loop [5, 6] (fun x i => ∃ k : Nat, k ≤ 8 ∧ i = .int .i64 k ∧ x = .int .u64 (num d a k)) (fun _ i => 8 - (intOf i).toNat)
  case atStart => exact ⟨0, by omega, rfl, rfl⟩
  case round =>
    obtain ⟨k, hk, rfl, rfl⟩ := hrel
    by_cases hlt : k < 8
    · have hsz : a + k < (strF d n).size := by rw [es]; omega
      have b1 := num_lt d a hd.out k hlt
      have b3 := hd.out (a + k)
      go_wp2
      go_round
      case rel =>
        refine ⟨k + 1, by omega, by go_num, ?_⟩
        rw [strF_at hsz b3]
        simp only [num, IntKind.wrap_u64]
        congr 1
        omega
      case measure => simp [intOf]; omega
    · obtain rfl : k = 8 := by omega
      go_wp2
      go_ret
      exact ⟨rfl, Below.refl _ _⟩
end Go.Proofs.Ytncampbmnbhikaa
-- Own
namespace Go.Proofs.Ytncampbmnbhikaa
set_option linter.unusedVariables false
set_option linter.unusedSimpArgs false
open Go.RowKit

/-- a row of the call's own, by its index -/
theorem own_row {w : World} {base : Nat} {v : Value} {n : Nat} {d : Nat → Int} (h : OwnB w base v n d) (hn : 0 < n) :
    ∃ g cap f, v = .slice (some ⟨g, 0, none⟩) n cap ∧ base ≤ g ∧ n ≤ cap ∧ cap ≤ maxLen ∧ w.rowIs g 5 cap f ∧ ∀ i, i < n → f i = yV d i := by
  obtain ⟨hl, h2⟩ := h
  rcases h2 with ⟨rfl, rfl⟩ | ⟨g, cap, cur, rfl, hb, hh, h3, h4, h5, h6⟩
  · omega
  · refine ⟨g, cap, fun i => cur[i]?.getD (.int .u8 0), rfl, hb, h3, h4, ⟨cur, hh, by simpa using h5, fun i hi => ?_⟩, fun i hi => ?_⟩
    · have : i < cur.size := by omega
      simp [this]
    · have e : cur.toList[i]? = (yL d n)[i]? := by rw [← h6, List.getElem?_take, if_pos (by omega)]
      have e2 : (yL d n)[i]? = some (yV d i) := by
        have hl2 : i < (yL d n).length := by rw [yL_len]; exact hi
        rw [List.getElem?_eq_getElem hl2, yL_at d n i _ (List.getElem?_eq_getElem hl2)]
      rw [e2, Array.getElem?_toList] at e
      show cur[i]?.getD _ = _
      rw [e]; rfl
theorem yL_get {d : Nat → Int} {n i : Nat} (hi : i < n) : (yL d n)[i]? = some (yV d i) := by
  have hl2 : i < (yL d n).length := by rw [yL_len]; exact hi
  rw [List.getElem?_eq_getElem hl2, yL_at d n i _ (List.getElem?_eq_getElem hl2)]
theorem row_own {w : World} {base g cap n : Nat} {f : Nat → Value} {d : Nat → Int} (h : w.rowIs g 5 cap f) (hf : ∀ i, i < n → f i = yV d i) (hb : base ≤ g) (h1 : n ≤ cap) (h2 : cap ≤ maxLen) :
    OwnB w base (.slice (some ⟨g, 0, none⟩) n cap) n d := by
  obtain ⟨c, hh, hs, hc⟩ := h
  refine ⟨by rw [yL_len]; omega, Or.inr ⟨g, cap, c, rfl, hb, hh, h1, h2, by omega, ?_⟩⟩
  apply List.ext_getElem?
  intro i
  rw [List.getElem?_take]
  split
  · rename_i hi
    rw [yL_get (by omega), Array.getElem?_toList, hc i (by omega), hf i (by omega)]
  · rename_i hi
    rw [List.getElem?_eq_none (by rw [yL_len]; omega)]
/-- how many elements a slice has -/
def lenV : Value → Nat
  | .slice _ n _ => n
  | _ => 0
theorem OwnB.shape {w : World} {base : Nat} {v : Value} {n : Nat} {d : Nat → Int} (h : OwnB w base v n d) : ∃ A c, v = .slice A n c := by
  obtain ⟨A, c, e, _⟩ := h.slis
  exact ⟨A, c, e⟩
theorem conv8 {w : World} {A : Option Addr} {n : Nat} {d : Nat → Int} (h : SlIs w A n (yV d)) (c : Nat) : (convert 31 9 (.slice A n c)).run Try.prog w = .ok (.string (strF d n)) w := conv_str Try.underlying31 Try.underlying5 Try.underlying9 h c
end Go.Proofs.Ytncampbmnbhikaa
